/- A core and an instruction that came in by value, opened. -/
import Derived.Test.YtobjjmdaleoblaaRows
import Derived.Test.YtobjjmdaleoblaaCoStep
import Derived.Deep.Slices
import Derived.ChangeSame
import Derived.OpenShut
import Derived.Laws.IdiomArrays
namespace Go.Proofs.Ytobjjmdaleoblaa.Co
open Go.ChangeShapes Go.WideShapes Go.RowKit Go.Deep Go.Proofs.YtobjjmdaleoblaaW.PrintWords Go.Proofs.Ytobjjmdaleoblaa.PCoreRuns
theorem cells3 : Try.prog.cellsOf 3 = 1 := by kernel_rfl
theorem cells22 : Try.prog.cellsOf 22 = 1 := by kernel_rfl
theorem cells23 : Try.prog.cellsOf 23 = 8 := by kernel_rfl
theorem cells25 : Try.prog.cellsOf 25 = 9 := by kernel_rfl
theorem cells27 : Try.prog.cellsOf 27 = 8 := by kernel_rfl
theorem list8 {α : Type} (l : List α) (h : l.length = 8) : ∃ a b c d e f g i, l = [a, b, c, d, e, f, g, i] := by
  match l, h with
  | [a, b, c, d, e, f, g, i], _ => exact ⟨a, b, c, d, e, f, g, i, rfl⟩
theorem list9 {α : Type} (l : List α) (h : l.length = 9) : ∃ a b c d e f g i j, l = [a, b, c, d, e, f, g, i, j] := by
  match l, h with
  | [a, b, c, d, e, f, g, i, j], _ => exact ⟨a, b, c, d, e, f, g, i, j, rfl⟩
section
variable {H : Type} {enc : TypeId × Value → H} {w : World} {base : Nat} {spare : Nat → Bool} {held : Bool}
theorem open_i64 {n : Nat} {c : Value} {o : Option (DataW H × List MemPlace)} (hc : DataW.trod enc Try.prog w base spare held n 3 [c] = o) (ho : o.isSome = true) : ∃ v : Int, c = .int .i64 v ∧ -9223372036854775808 ≤ v ∧ v ≤ 9223372036854775807 := by
  obtain ⟨y, rfl⟩ := Option.isSome_iff_exists.1 ho
  obtain ⟨v, hv, _, hw⟩ := DataW.trod_int Try.underlying3 hc
  have hw' : (decide (-9223372036854775808 ≤ v) && decide (v ≤ 9223372036854775807)) = true := hw
  simp at hw'
  exact ⟨v, by simpa using hv, hw'.1, hw'.2⟩
theorem open_u32 {n : Nat} {c : Value} {o : Option (DataW H × List MemPlace)} (hc : DataW.trod enc Try.prog w base spare held n 22 [c] = o) (ho : o.isSome = true) : ∃ v : Int, c = .int .u32 v ∧ 0 ≤ v ∧ v < 4294967296 := by
  obtain ⟨y, rfl⟩ := Option.isSome_iff_exists.1 ho
  obtain ⟨v, hv, _, hw⟩ := DataW.trod_int Try.underlying22 hc
  have hw' : (decide (0 ≤ v) && decide (v ≤ 4294967295)) = true := hw
  simp at hw'
  exact ⟨v, by simpa using hv, hw'.1, by omega⟩
theorem open_regs {fuel : Nat} {c0 c1 c2 c3 c4 c5 c6 c7 : Value} {x : DataW H × List MemPlace} (h : DataW.trod enc Try.prog w base spare held fuel 23 [c0, c1, c2, c3, c4, c5, c6, c7] = some x) :
    ∃ n, (DataW.trod enc Try.prog w base spare held n 22 [c0]).isSome = true ∧ (DataW.trod enc Try.prog w base spare held n 22 [c1]).isSome = true ∧ (DataW.trod enc Try.prog w base spare held n 22 [c2]).isSome = true ∧ (DataW.trod enc Try.prog w base spare held n 22 [c3]).isSome = true ∧ (DataW.trod enc Try.prog w base spare held n 22 [c4]).isSome = true ∧ (DataW.trod enc Try.prog w base spare held n 22 [c5]).isSome = true ∧ (DataW.trod enc Try.prog w base spare held n 22 [c6]).isSome = true ∧ (DataW.trod enc Try.prog w base spare held n 22 [c7]).isSome = true := by
  cases fuel with
  | zero => simp [DataW.trod] at h
  | succ n =>
    unfold DataW.trod at h
    rw [Try.underlying23] at h
    have r8 : List.range 8 = [0, 1, 2, 3, 4, 5, 6, 7] := rfl
    simp [r8, cells22] at h
    obtain ⟨_, h⟩ := h
    refine ⟨n, ?_⟩
    cases h0 : DataW.trod enc Try.prog w base spare held n 22 [c0] with
    | none => simp [h0] at h
    | some y0 =>
      cases h1 : DataW.trod enc Try.prog w base spare held n 22 [c1] with
      | none => simp [h0, h1] at h
      | some y1 =>
        cases h2 : DataW.trod enc Try.prog w base spare held n 22 [c2] with
        | none => simp [h0, h1, h2] at h
        | some y2 =>
          cases h3 : DataW.trod enc Try.prog w base spare held n 22 [c3] with
          | none => simp [h0, h1, h2, h3] at h
          | some y3 =>
            cases h4 : DataW.trod enc Try.prog w base spare held n 22 [c4] with
            | none => simp [h0, h1, h2, h3, h4] at h
            | some y4 =>
              cases h5 : DataW.trod enc Try.prog w base spare held n 22 [c5] with
              | none => simp [h0, h1, h2, h3, h4, h5] at h
              | some y5 =>
                cases h6 : DataW.trod enc Try.prog w base spare held n 22 [c6] with
                | none => simp [h0, h1, h2, h3, h4, h5, h6] at h
                | some y6 =>
                  cases h7 : DataW.trod enc Try.prog w base spare held n 22 [c7] with
                  | none => simp [h0, h1, h2, h3, h4, h5, h6, h7] at h
                  | some y7 =>
                    simp
theorem open_core {fuel : Nat} {cs : List Value} {x : DataW H × List MemPlace} (h : DataW.trod enc Try.prog w base spare held fuel 25 cs = some x) :
    ∃ c : Cr, c.ok ∧ (-9223372036854775808 ≤ c.pc ∧ c.pc ≤ 9223372036854775807) ∧ cs = [.int .u32 c.r0, .int .u32 c.r1, .int .u32 c.r2, .int .u32 c.r3, .int .u32 c.r4, .int .u32 c.r5, .int .u32 c.r6, .int .u32 c.r7, .int .i64 c.pc] := by
  obtain ⟨xs, n, _, _, hl, hxs, hf⟩ := DataW.trod_struct Try.underlying25 h
  rw [cells25] at hl
  obtain ⟨c0, c1, c2, c3, c4, c5, c6, c7, c8, rfl⟩ := list9 cs hl
  have g0 : DataW.trod enc Try.prog w base spare held n 23 (([c0, c1, c2, c3, c4, c5, c6, c7, c8].drop 0).take (Try.prog.cellsOf 23)) = xs[0]? := hf 0 _ rfl
  have g1 : DataW.trod enc Try.prog w base spare held n 3 (([c0, c1, c2, c3, c4, c5, c6, c7, c8].drop 8).take (Try.prog.cellsOf 3)) = xs[1]? := hf 1 _ rfl
  rw [cells3] at g1
  rw [cells23] at g0
  have hx : xs.length = 2 := hxs
  obtain ⟨p, rfl, p0, p1⟩ := open_i64 g1 (by simp [hx])
  obtain ⟨y, hy⟩ := Option.isSome_iff_exists.1 (show (xs[0]?).isSome = true by simp [hx])
  rw [hy] at g0
  obtain ⟨m, a0, a1, a2, a3, a4, a5, a6, a7⟩ := open_regs g0
  obtain ⟨v0, rfl, l0, u0⟩ := open_u32 rfl a0
  obtain ⟨v1, rfl, l1, u1⟩ := open_u32 rfl a1
  obtain ⟨v2, rfl, l2, u2⟩ := open_u32 rfl a2
  obtain ⟨v3, rfl, l3, u3⟩ := open_u32 rfl a3
  obtain ⟨v4, rfl, l4, u4⟩ := open_u32 rfl a4
  obtain ⟨v5, rfl, l5, u5⟩ := open_u32 rfl a5
  obtain ⟨v6, rfl, l6, u6⟩ := open_u32 rfl a6
  obtain ⟨v7, rfl, l7, u7⟩ := open_u32 rfl a7
  exact ⟨⟨v0, v1, v2, v3, v4, v5, v6, v7, p⟩, ⟨⟨l0, u0⟩, ⟨l1, u1⟩, ⟨l2, u2⟩, ⟨l3, u3⟩, ⟨l4, u4⟩, ⟨l5, u5⟩, ⟨l6, u6⟩, ⟨l7, u7⟩⟩, ⟨p0, p1⟩, rfl⟩
theorem open_inst {fuel : Nat} {cs : List Value} {x : DataW H × List MemPlace} (h : DataW.trod enc Try.prog w base spare held fuel 27 cs = some x) :
    ∃ i : S27, (0 ≤ i.f6 ∧ i.f6 < 4294967296) ∧ cs = [.int .i64 i.f0, .int .i64 i.f1, .int .i64 i.f2, .int .i64 i.f3, .int .i64 i.f4, .int .i64 i.f5, .int .u32 i.f6, .int .i64 i.f7] := by
  obtain ⟨xs, n, _, _, hl, hxs, hf⟩ := DataW.trod_struct Try.underlying27 h
  rw [cells27] at hl
  obtain ⟨c0, c1, c2, c3, c4, c5, c6, c7, rfl⟩ := list8 cs hl
  have hx : xs.length = 8 := hxs
  have g0 : DataW.trod enc Try.prog w base spare held n 3 (([c0, c1, c2, c3, c4, c5, c6, c7].drop 0).take (Try.prog.cellsOf 3)) = xs[0]? := hf 0 _ rfl
  rw [cells3] at g0
  have g1 : DataW.trod enc Try.prog w base spare held n 3 (([c0, c1, c2, c3, c4, c5, c6, c7].drop 1).take (Try.prog.cellsOf 3)) = xs[1]? := hf 1 _ rfl
  rw [cells3] at g1
  have g2 : DataW.trod enc Try.prog w base spare held n 3 (([c0, c1, c2, c3, c4, c5, c6, c7].drop 2).take (Try.prog.cellsOf 3)) = xs[2]? := hf 2 _ rfl
  rw [cells3] at g2
  have g3 : DataW.trod enc Try.prog w base spare held n 3 (([c0, c1, c2, c3, c4, c5, c6, c7].drop 3).take (Try.prog.cellsOf 3)) = xs[3]? := hf 3 _ rfl
  rw [cells3] at g3
  have g4 : DataW.trod enc Try.prog w base spare held n 3 (([c0, c1, c2, c3, c4, c5, c6, c7].drop 4).take (Try.prog.cellsOf 3)) = xs[4]? := hf 4 _ rfl
  rw [cells3] at g4
  have g5 : DataW.trod enc Try.prog w base spare held n 3 (([c0, c1, c2, c3, c4, c5, c6, c7].drop 5).take (Try.prog.cellsOf 3)) = xs[5]? := hf 5 _ rfl
  rw [cells3] at g5
  have g6 : DataW.trod enc Try.prog w base spare held n 22 (([c0, c1, c2, c3, c4, c5, c6, c7].drop 6).take (Try.prog.cellsOf 22)) = xs[6]? := hf 6 _ rfl
  rw [cells22] at g6
  have g7 : DataW.trod enc Try.prog w base spare held n 3 (([c0, c1, c2, c3, c4, c5, c6, c7].drop 7).take (Try.prog.cellsOf 3)) = xs[7]? := hf 7 _ rfl
  rw [cells3] at g7
  obtain ⟨v0, rfl, _, _⟩ := open_i64 g0 (by simp [hx])
  obtain ⟨v1, rfl, _, _⟩ := open_i64 g1 (by simp [hx])
  obtain ⟨v2, rfl, _, _⟩ := open_i64 g2 (by simp [hx])
  obtain ⟨v3, rfl, _, _⟩ := open_i64 g3 (by simp [hx])
  obtain ⟨v4, rfl, _, _⟩ := open_i64 g4 (by simp [hx])
  obtain ⟨v5, rfl, _, _⟩ := open_i64 g5 (by simp [hx])
  obtain ⟨v6, rfl, l6, u6⟩ := open_u32 g6 (by simp [hx])
  obtain ⟨v7, rfl, _, _⟩ := open_i64 g7 (by simp [hx])
  exact ⟨⟨v0, v1, v2, v3, v4, v5, v6, v7⟩, ⟨l6, u6⟩, rfl⟩
/-- The same of a value. -/
theorem agg_of {v : Value} {l : List Value} (h : v.cells.toList = l) (hc : ∃ cs, v = .agg cs) : v = .agg l.toArray := by
  obtain ⟨cs, rfl⟩ := hc
  have h' : cs.toList = l := h
  subst h'
  simp
end
end Go.Proofs.Ytobjjmdaleoblaa.Co
