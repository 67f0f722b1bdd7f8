/- A program of instructions that came in by value, opened. -/
import Derived.Test.YtobjjmdaleoblaaCoOpen
namespace Go.Proofs.Ytobjjmdaleoblaa.Co
open Go.ChangeShapes Go.WideShapes Go.RowKit Go.Deep Go.Proofs.YtobjjmdaleoblaaW.PrintWords Go.Proofs.Ytobjjmdaleoblaa.PCoreRuns
theorem cells39 : Try.prog.cellsOf 39 = 1 := by kernel_rfl
theorem cells41 : Try.prog.cellsOf 41 = 3 := by kernel_rfl
theorem list3 {α : Type} (l : List α) (h : l.length = 3) : ∃ a b c, l = [a, b, c] := by
  match l, h with
  | [a, b, c], _ => exact ⟨a, b, c, rfl⟩
instance : Inhabited S27 := ⟨z27⟩
section
variable {H : Type} {enc : TypeId × Value → H} {w : World} {base : Nat} {spare : Nat → Bool} {held : Bool}
/-- A slice of instructions. -/
theorem open_insts {fuel : Nat} {cs : List Value} {x : DataW H × List MemPlace} (hf : DataW.trod enc Try.prog w base (fun _ => true) held fuel 39 cs = some x) :
    ∃ (a : Option Addr) (len cap : Nat) (l : List S27), cs = [.slice a len cap] ∧ l.length = len ∧ len ≤ cap ∧ Kd.C k27 w a len l ∧ ∀ i ∈ l, 0 ≤ i.f6 ∧ i.f6 < 4294967296 := by
  rcases open_slice Try.underlying39 hf with ⟨hcs, _⟩ | ⟨x, l, c, m, n, D, Pl, hcs, hb, hl, hm, hmm, _, hi⟩
  · exact ⟨none, 0, 0, [], hcs, rfl, Nat.le_refl _, ⟨rfl, by omega, fun h => by omega⟩, fun i h => by cases h⟩
  · subst hmm
    obtain ⟨f, hf'⟩ := choose_lt (n := l) (p := fun i (e : S27) => (0 ≤ e.f6 ∧ e.f6 < 4294967296) ∧ ∀ j u, [Value.int .i64 e.f0, .int .i64 e.f1, .int .i64 e.f2, .int .i64 e.f3, .int .i64 e.f4, .int .i64 e.f5, .int .u32 e.f6, .int .i64 e.f7][j]? = some u → w.cell? (x.add (i * 8 + j)) = some u) (fun i hil => by
      obtain ⟨cs', hc, ht⟩ := hi i (by omega)
      rw [cells27] at hc
      obtain ⟨e, hr, rfl⟩ := open_inst ht
      obtain ⟨_, _, hat⟩ := World.cells?_some hc
      refine ⟨e, hr, fun j u hj => ?_⟩
      have hj3 : j < 8 := by have := (List.getElem?_eq_some_iff.1 hj).1; simpa using this
      have := hat j hj3
      rw [Go.Deep.add_add, hj] at this
      exact this)
    refine ⟨some x, l, _, (List.range l).map f, hcs, by simp, hl, ⟨by simp, by unfold maxLen at hm; omega, fun _ => ⟨x, rfl, fun j e hj => ?_⟩⟩, fun e he => ?_⟩
    · rw [List.getElem?_map] at hj
      obtain ⟨i, hi2, rfl⟩ := Option.map_eq_some_iff.1 hj
      obtain ⟨hjl, hji⟩ := List.getElem?_eq_some_iff.1 hi2
      simp at hji hjl
      subst hji
      exact ⟨_, rfl, k27_mk w _, (hf' j hjl).2⟩
    · obtain ⟨i, hi2, rfl⟩ := List.mem_map.1 he
      exact (hf' i (List.mem_range.1 hi2)).1
/-- A program: its slice and its two places. -/
theorem open_code {fuel : Nat} {cs : List Value} {x : DataW H × List MemPlace} (h : DataW.trod enc Try.prog w base (fun _ => true) held fuel 41 cs = some x) :
    ∃ (a : Option Addr) (len cap : Nat) (l : List S27) (lo un : Int), cs = [.slice a len cap, .int .i64 lo, .int .i64 un] ∧ l.length = len ∧ len ≤ cap ∧ Kd.C k27 w a len l ∧ (∀ i ∈ l, 0 ≤ i.f6 ∧ i.f6 < 4294967296) ∧
      (-9223372036854775808 ≤ lo ∧ lo ≤ 9223372036854775807) ∧ (-9223372036854775808 ≤ un ∧ un ≤ 9223372036854775807) := by
  obtain ⟨xs, n, _, _, hl, hxs, hf⟩ := DataW.trod_struct Try.underlying41 h
  rw [cells41] at hl
  obtain ⟨c0, c1, c2, rfl⟩ := list3 cs hl
  have hx : xs.length = 3 := hxs
  have g0 : DataW.trod enc Try.prog w base (fun _ => true) held n 39 (([c0, c1, c2].drop 0).take (Try.prog.cellsOf 39)) = xs[0]? := hf 0 _ rfl
  have g1 : DataW.trod enc Try.prog w base (fun _ => true) held n 3 (([c0, c1, c2].drop 1).take (Try.prog.cellsOf 3)) = xs[1]? := hf 1 _ rfl
  have g2 : DataW.trod enc Try.prog w base (fun _ => true) held n 3 (([c0, c1, c2].drop 2).take (Try.prog.cellsOf 3)) = xs[2]? := hf 2 _ rfl
  rw [cells39] at g0
  rw [cells3] at g1 g2
  obtain ⟨lo, rfl, l0, l1⟩ := open_i64 g1 (by simp [hx])
  obtain ⟨un, rfl, u0, u1⟩ := open_i64 g2 (by simp [hx])
  obtain ⟨y, hy⟩ := Option.isSome_iff_exists.1 (show (xs[0]?).isSome = true by simp [hx])
  rw [hy] at g0
  obtain ⟨a, len, cap, l, hs, hlen, hcap, hC, hr⟩ := open_insts g0
  simp at hs
  subst hs
  exact ⟨a, len, cap, l, lo, un, rfl, hlen, hcap, hC, hr, ⟨l0, l1⟩, ⟨u0, u1⟩⟩
end
end Go.Proofs.Ytobjjmdaleoblaa.Co
