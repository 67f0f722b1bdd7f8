/- A slice of events that came in, opened: its elements as Lean's. -/
import Derived.Test.YtmlpbhgdlociiaaRows
import Derived.Test.YtmlpbhgdlociiaaPEventEncodesx2
import Derived.Deep.Slices
import Derived.ChangeSame
import Derived.OpenShut
namespace Go.Proofs.Ytmlpbhgdlociiaa.EvOpen
open Go.ChangeShapes Go.WideShapes Go.RowKit Go.Deep Go.Proofs.YtmlpbhgdlociiaaW.PrintWords Go.Proofs.Ytmlpbhgdlociiaa.PEventEncodes

theorem cells3 : Try.prog.cellsOf 3 = 1 := by kernel_rfl
theorem cells29 : Try.prog.cellsOf 29 = 3 := by kernel_rfl
theorem list3 {α : Type} (l : List α) (h : l.length = 3) : ∃ a b c, l = [a, b, c] := by
  match l, h with
  | [a, b, c], _ => exact ⟨a, b, c, rfl⟩
instance : Inhabited S29 := ⟨z29⟩

section
variable {H : Type} {enc : TypeId × Value → H} {w : World} {base : Nat} {spare : Nat → Bool} {held : Bool}
/-- Three cells that read as an event. -/
theorem open_event {fuel : Nat} {cs : List Value} {x : DataW H × List MemPlace} (h : DataW.trod enc Try.prog w base spare held fuel 29 cs = some x) :
    ∃ e : S29, cs = [.int .i64 e.f0, .int .i64 e.f1, .int .i64 e.f2] := by
  obtain ⟨xs, n, _, _, hl, hxs, hf⟩ := DataW.trod_struct Try.underlying29 h
  rw [cells29] at hl
  obtain ⟨c0, c1, c2, rfl⟩ := list3 cs hl
  have g0 : DataW.trod enc Try.prog w base spare held n 3 (([c0, c1, c2].drop 0).take (Try.prog.cellsOf 3)) = xs[0]? := hf 0 _ rfl
  have g1 : DataW.trod enc Try.prog w base spare held n 3 (([c0, c1, c2].drop 1).take (Try.prog.cellsOf 3)) = xs[1]? := hf 1 _ rfl
  have g2 : DataW.trod enc Try.prog w base spare held n 3 (([c0, c1, c2].drop 2).take (Try.prog.cellsOf 3)) = xs[2]? := hf 2 _ rfl
  rw [cells3] at g0 g1 g2
  have key : ∀ (c : Value) (o : Option (DataW H × List MemPlace)), DataW.trod enc Try.prog w base spare held n 3 [c] = o → o.isSome = true → ∃ v, c = .int .i64 v := by
    intro c o hc ho
    obtain ⟨y, rfl⟩ := Option.isSome_iff_exists.1 ho
    obtain ⟨v, hv, _⟩ := DataW.trod_int Try.underlying3 hc
    exact ⟨v, by simpa using hv⟩
  have hx : xs.length = 3 := hxs
  obtain ⟨v0, rfl⟩ := key c0 _ g0 (by simp [hx])
  obtain ⟨v1, rfl⟩ := key c1 _ g1 (by simp [hx])
  obtain ⟨v2, rfl⟩ := key c2 _ g2 (by simp [hx])
  exact ⟨⟨v0, v1, v2⟩, rfl⟩

/-- A slice of events. -/
theorem open_events {a : Option Addr} {len cap : Nat} {d : DataW H} {p : List MemPlace} (h : DataW.Trod enc Try.prog w base (fun _ => true) held 24 (.slice a len cap) d p) :
    ∃ l : List S29, l.length = len ∧ len ≤ cap ∧ Kd.C k29 w a len l := by
  obtain ⟨fuel, hf⟩ := h
  rcases open_slice Try.underlying24 hf with ⟨hcs, _⟩ | ⟨x, l, c, m, n, D, Pl, hcs, hb, hl, hm, hmm, _, hi⟩
  · simp [Value.cells] at hcs
    obtain ⟨rfl, rfl, rfl⟩ := hcs
    exact ⟨[], rfl, Nat.le_refl _, rfl, by omega, fun h => by omega⟩
  · simp [Value.cells] at hcs
    obtain ⟨rfl, rfl, rfl⟩ := hcs
    simp at hmm
    subst hmm
    obtain ⟨f, hf'⟩ := choose_lt (n := len) (p := fun i (e : S29) => ∀ j u, [Value.int .i64 e.f0, .int .i64 e.f1, .int .i64 e.f2][j]? = some u → w.cell? (x.add (i * 3 + j)) = some u) (fun i hil => by
      obtain ⟨cs', hc, ht⟩ := hi i (by omega)
      rw [cells29] at hc
      obtain ⟨e, rfl⟩ := open_event ht
      obtain ⟨_, _, hat⟩ := World.cells?_some hc
      refine ⟨e, fun j u hj => ?_⟩
      have hj3 : j < 3 := by have := (List.getElem?_eq_some_iff.1 hj).1; simpa using this
      have := hat j hj3
      rw [Go.Deep.add_add, hj] at this
      exact this)
    refine ⟨(List.range len).map f, by simp, hl, by simp, by unfold maxLen at hm; omega, fun _ => ⟨x, rfl, fun j e hj => ?_⟩⟩
    rw [List.getElem?_map] at hj
    obtain ⟨i, hi2, rfl⟩ := Option.map_eq_some_iff.1 hj
    obtain ⟨hjl, hji⟩ := List.getElem?_eq_some_iff.1 hi2
    simp at hji hjl
    subst hji
    exact ⟨_, rfl, k29_mk w _, hf' j hjl⟩
end
end Go.Proofs.Ytmlpbhgdlociiaa.EvOpen
