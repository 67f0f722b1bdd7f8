/- ropelineref07.Right: whatever it is asked, it answers; and each instruction of what it says yes to may be. -/
import Derived.Test.YtobjjmdaleoblaaCoRef7Plain
import Derived.Test.YtobjjmdaleoblaaCoRight
namespace Go.Proofs.Ytobjjmdaleoblaa.Co
open Go.RowKit Go.Proofs.YtobjjmdaleoblaaW.PrintWords Go.Proofs.YtobjjmdaleoblaaW.PrintLast Go.Proofs.YtobjjmdaleoblaaW.PrintMore Go.Proofs.Ytobjjmdaleoblaa.PCoreRuns
attribute [local go_sem] max2_int min2_int max_two min_two max_three min_three max_four min_four
set_option linter.unusedVariables false
set_option linter.unusedSimpArgs false
theorem r7_no (A : Option Addr) (cap n : Nat) (lo un : Int) (w : World) (hn : n ≤ 9223372036854775807) (h : n < 1 ∨ 64 < n ∨ lo < 0 ∨ un < 0 ∨ (n : Int) ≤ lo ∨ (n : Int) ≤ un) :
    Calls Try.prog 14 #[.agg #[.slice A n cap, .int .i64 lo, .int .i64 un]] w (SomeBool (fun b => b = false) w) := by
  by_cases h0 : n < 1
  · have e0 : decide (n < 1) = true := decide_eq_true h0
    have e0' : decide ((n : Int) < 1) = true := decide_eq_true (by omega)
    clear h h0
    go_enter Try.func14, Try.ntmps14
    go_wp2
    go_ret
    exact ⟨_, rfl, rfl, by repeat (first | exact Below.refl _ _ | apply below_alloc | apply pw_below_drewN | apply below_drew)⟩
  have e0 : decide (n < 1) = false := decide_eq_false h0
  have e0' : decide ((n : Int) < 1) = false := decide_eq_false (by omega)
  replace h : 64 < n ∨ lo < 0 ∨ un < 0 ∨ (n : Int) ≤ lo ∨ (n : Int) ≤ un := by omega
  clear h0
  by_cases h1 : 64 < n
  · have e1 : decide (64 < n) = true := decide_eq_true h1
    have e1' : decide (64 < (n : Int)) = true := decide_eq_true (by omega)
    clear h h1
    go_enter Try.func14, Try.ntmps14
    go_wp2
    go_ret
    exact ⟨_, rfl, rfl, by repeat (first | exact Below.refl _ _ | apply below_alloc | apply pw_below_drewN | apply below_drew)⟩
  have e1 : decide (64 < n) = false := decide_eq_false h1
  have e1' : decide (64 < (n : Int)) = false := decide_eq_false (by omega)
  replace h : lo < 0 ∨ un < 0 ∨ (n : Int) ≤ lo ∨ (n : Int) ≤ un := by omega
  clear h1
  by_cases h2 : lo < 0
  · have e2 : decide (lo < 0) = true := decide_eq_true h2
    clear h h2
    go_enter Try.func14, Try.ntmps14
    go_wp2
    go_ret
    exact ⟨_, rfl, rfl, by repeat (first | exact Below.refl _ _ | apply below_alloc | apply pw_below_drewN | apply below_drew)⟩
  have e2 : decide (lo < 0) = false := decide_eq_false h2
  replace h : un < 0 ∨ (n : Int) ≤ lo ∨ (n : Int) ≤ un := by omega
  clear h2
  by_cases h3 : un < 0
  · have e3 : decide (un < 0) = true := decide_eq_true h3
    clear h h3
    go_enter Try.func14, Try.ntmps14
    go_wp2
    go_ret
    exact ⟨_, rfl, rfl, by repeat (first | exact Below.refl _ _ | apply below_alloc | apply pw_below_drewN | apply below_drew)⟩
  have e3 : decide (un < 0) = false := decide_eq_false h3
  replace h : (n : Int) ≤ lo ∨ (n : Int) ≤ un := by omega
  clear h3
  by_cases h4 : (n : Int) ≤ lo
  · have e4 : decide ((n : Int) ≤ lo) = true := decide_eq_true h4
    clear h h4
    go_enter Try.func14, Try.ntmps14
    go_wp2
    go_ret
    exact ⟨_, rfl, rfl, by repeat (first | exact Below.refl _ _ | apply below_alloc | apply pw_below_drewN | apply below_drew)⟩
  have e4 : decide ((n : Int) ≤ lo) = false := decide_eq_false h4
  replace h : (n : Int) ≤ un := by omega
  clear h4
  have h5 : (n : Int) ≤ un := by omega
  have e5 : decide ((n : Int) ≤ un) = true := decide_eq_true h5
  clear h h5
  go_enter Try.func14, Try.ntmps14
  go_wp2
  go_ret
  exact ⟨_, rfl, rfl, by repeat (first | exact Below.refl _ _ | apply below_alloc | apply pw_below_drewN | apply below_drew)⟩
set_option maxHeartbeats 4000000 in
set_option maxRecDepth 100000 in
theorem r7_loop (A : Option Addr) (cap : Nat) (l : List S27) (lo un : Int) (w : World) (hl : Kd.C k27 w A l.length l) (hr : ∀ i ∈ l, 0 ≤ i.f6 ∧ i.f6 < 4294967296) (h0 : 1 ≤ l.length) (h1 : l.length ≤ 64) (l0 : 0 ≤ lo) (l1 : lo < l.length) (u0 : 0 ≤ un) (u1 : un < l.length) :
    Calls Try.prog 14 #[.agg #[.slice A l.length cap, .int .i64 lo, .int .i64 un]] w (SomeBool (fun b => b = true → ∀ i ∈ l, okI i) w) := by
  have HL := Aside0.mk hl
  have HR := Aside0.mk hr
  clear hl hr
  have e0 : decide (l.length < 1) = false := decide_eq_false (by omega)
  have e0' : decide ((l.length : Int) < 1) = false := decide_eq_false (by omega)
  have e1 : decide (64 < l.length) = false := decide_eq_false (by omega)
  have e1' : decide (64 < (l.length : Int)) = false := decide_eq_false (by omega)
  have e2 : decide (lo < 0) = false := decide_eq_false (by omega)
  have e3 : decide (un < 0) = false := decide_eq_false (by omega)
  have e4 : decide ((l.length : Int) ≤ lo) = false := decide_eq_false (by omega)
  have e5 : decide ((l.length : Int) ≤ un) = false := decide_eq_false (by omega)
  go_enter Try.func14, Try.ntmps14
  go_wp2_with fail
  clear e0 e0' e1 e1' e2 e3 e4 e5 l0 l1 u0 u1
  go_loopw [40] (fun i wr => ∃ k : Nat, k ≤ l.length ∧ i = .int .i64 k ∧ Aside0 (∀ j ∈ l.take k, okI j) ∧ Aside0 (Below w.heap.size w wr)) (fun i _ => l.length - (intOf i).toNat)
  case atStart => exact ⟨0, Nat.zero_le _, rfl, ⟨fun j hj => by simp at hj⟩, ⟨by repeat (first | exact Below.refl _ _ | apply below_alloc | apply pw_below_drewN)⟩⟩
  case round =>
    obtain ⟨k, hk, rfl, HO, HB⟩ := hrel
    by_cases hlt : k < l.length
    · obtain ⟨ad, ead, x0, x1, x2, x3, x4, x5, x6, x7⟩ := at_T27 HL.out (k : Int) (by omega) (by omega)
      cases ead
      replace x0 := (HB.out.cell (World.block_lt_of_cell? w _ x0)).trans x0
      replace x1 := (HB.out.cell (World.block_lt_of_cell? w _ x1)).trans x1
      replace x2 := (HB.out.cell (World.block_lt_of_cell? w _ x2)).trans x2
      replace x3 := (HB.out.cell (World.block_lt_of_cell? w _ x3)).trans x3
      replace x4 := (HB.out.cell (World.block_lt_of_cell? w _ x4)).trans x4
      replace x5 := (HB.out.cell (World.block_lt_of_cell? w _ x5)).trans x5
      replace x6 := (HB.out.cell (World.block_lt_of_cell? w _ x6)).trans x6
      replace x7 := (HB.out.cell (World.block_lt_of_cell? w _ x7)).trans x7
      obtain ⟨i, hid⟩ : ∃ i, rd_T27 l (k : Int) = i := ⟨_, rfl⟩
      rw [hid] at x0 x1 x2 x3 x4 x5 x6 x7
      have HID := Aside0.mk hid
      have hkk := HR.out _ (rd_mem (l := l) (i := (k : Int)) (by omega) (by omega))
      rw [hid] at hkk
      have HI := Aside0.mk (show ∀ b : Bool, (b = true → okI i) → b = true → ∀ j ∈ l.take (k + 1), okI j from fun b hb hbt j hj => by
        rw [List.take_succ_eq_append_getElem hlt] at hj
        rcases List.mem_append.1 hj with h | h
        · exact HO.out j h
        · have hji : j = i := by rw [List.mem_singleton.1 h, ← hid]; unfold rd_T27; simp [List.getD_eq_getElem?_getD, hlt]
          subst hji; exact hb hbt)
      have P := Aside0.mk (fun W => right_calls i (l.length : Int) W hkk.1 hkk.2)
      clear hid hkk HO
      simp only [Int.toNat_natCast] at x0 x1 x2 x3 x4 x5 x6 x7
      go_wp2_with (go_at_call 8; refine (P.out _).mono ?_; rintro e w1 ⟨b, rfl, hi, hb⟩; have HI2 := Aside0.mk hi; have HB1 := Aside0.mk hb; clear hi hb; cases b)
      · go_ret
        exact ⟨_, rfl, fun h => (by cases h), below_step (below_alloc HB.out _) HB1.out⟩
      · go_roundw
        case rel => exact ⟨k + 1, by omega, by go_num, ⟨HI.out true (fun _ => HI2.out trivial) rfl⟩, ⟨below_step (below_alloc HB.out _) HB1.out⟩⟩
        case measure => simp [intOf]; omega
    · have e : k = l.length := by omega
      subst e
      go_wp2
      go_ret
      exact ⟨_, rfl, fun _ i hi => HO.out i (by rw [List.take_length]; exact hi), by repeat (first | exact HB.out | apply below_alloc | apply pw_below_drewN)⟩
theorem r7_calls (A : Option Addr) (cap : Nat) (l : List S27) (lo un : Int) (w : World) (hl : Kd.C k27 w A l.length l) (hr : ∀ i ∈ l, 0 ≤ i.f6 ∧ i.f6 < 4294967296) :
    Calls Try.prog 14 #[.agg #[.slice A l.length cap, .int .i64 lo, .int .i64 un]] w (SomeBool (fun b => b = true → ∀ i ∈ l, okI i) w) := by
  by_cases h : l.length < 1 ∨ 64 < l.length ∨ lo < 0 ∨ un < 0 ∨ (l.length : Int) ≤ lo ∨ (l.length : Int) ≤ un
  · refine (r7_no A cap l.length lo un w hl.2.1 h).mono fun e w' hh => ?_
    obtain ⟨b, h1, h2, h3⟩ := hh
    exact ⟨b, h1, fun h => absurd (h.symm.trans h2) (by decide), h3⟩
  · exact r7_loop A cap l lo un w hl hr (by omega) (by omega) (by omega) (by omega) (by omega) (by omega)
end Go.Proofs.Ytobjjmdaleoblaa.Co
