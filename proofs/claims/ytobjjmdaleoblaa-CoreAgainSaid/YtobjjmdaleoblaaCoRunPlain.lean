/- Plain facts of a run: cores stay right; two equal lists of numbers are one to 'ints'; where a core has stopped it stops again. -/
import Derived.Test.YtobjjmdaleoblaaCoRunWords
namespace Go.Proofs.Ytobjjmdaleoblaa.Co
open Go.RowKit Go.Proofs.YtobjjmdaleoblaaW.PrintWords Go.Proofs.YtobjjmdaleoblaaW.PrintLast Go.Proofs.YtobjjmdaleoblaaW.PrintMore Go.Proofs.Ytobjjmdaleoblaa.PCoreRuns
set_option linter.unusedVariables false
set_option linter.unusedSimpArgs false
theorem go_ok (l : List S27) (self : Int) (hi : ∀ i ∈ l, okI i) (f0 : 0 ≤ self) (f1 : self < 64) : ∀ (n : Nat) (c : Cr) (ms : List Int), c.ok → (go l self n c ms).1.ok := by
  intro n
  induction n with
  | zero =>
    intro c ms hc
    unfold go
    split
    · split <;> exact hc
    · exact hc
  | succ n ih =>
    intro c ms hc
    unfold go
    split
    · rename_i h
      split
      · exact hc
      split
      · exact hc
      · exact ih _ _ (step_ok hc (hi _ (rd_mem h.1 h.2)) f0 f1)
    · exact hc
/-- How a run ends: with no error at a place of the memory or at 'done', where it stays; else with the trap. -/
theorem go_ends (l : List S27) (self : Int) (hi : ∀ i ∈ l, okI i) : ∀ (n : Nat) (c : Cr) (ms : List Int),
    ((go l self n c ms).2.2.2 = 0 ∧ ∀ ms', go l self 256 (go l self n c ms).1 ms' = ((go l self n c ms).1, ms', (go l self n c ms).2.2.1, 0)) ∨
    ((go l self n c ms).2.2.2 = 11 ∧ (go l self n c ms).2.2.1 = -1) := by
  intro n
  induction n with
  | zero =>
    intro c ms
    by_cases h : 0 ≤ c.pc ∧ c.pc < l.length
    · by_cases hm : 16 ≤ (rd_T27 l c.pc).f0
      · rw [go_mem l self 0 c ms h hm]
        exact .inl ⟨rfl, fun ms' => go_mem l self 256 c ms' h hm⟩
      · rw [go_much l self c ms h hm]
        exact .inr ⟨rfl, rfl⟩
    · rw [go_out l self 0 c ms h]
      exact .inr ⟨rfl, rfl⟩
  | succ n ih =>
    intro c ms
    by_cases h : 0 ≤ c.pc ∧ c.pc < l.length
    · by_cases hm : 16 ≤ (rd_T27 l c.pc).f0
      · rw [go_mem l self (n + 1) c ms h hm]
        exact .inl ⟨rfl, fun ms' => go_mem l self 256 c ms' h hm⟩
      · by_cases hd : (rd_T27 l c.pc).f0 = 13
        · rw [go_done l self n c ms h hd]
          exact .inl ⟨rfl, fun ms' => go_done l self 255 c ms' h hd⟩
        · by_cases hk : (rd_T27 l c.pc).f0 = 12
          · rw [go_mark l self n c ms h hk]; exact ih _ _
          · rw [go_on l self n c ms h hm hd hk]; exact ih _ _
    · rw [go_out l self (n + 1) c ms h]
      exact .inr ⟨rfl, rfl⟩
theorem ints_loop (l : List Int) (hl : l.length ≤ 9223372036854775807) : ∀ (d i k : Nat), d = l.length - i → i ≤ l.length → d < k → ropelinelaw08_ints.l0 k l l (l.length : Int) (i : Int) = some true := by
  intro d
  induction d with
  | zero =>
    intro i k hd hi hk
    obtain ⟨k, rfl⟩ : ∃ m, k = m + 1 := ⟨k - 1, by omega⟩
    simp only [ropelinelaw08_ints.l0]
    rw [if_neg (by omega)]
  | succ d ih =>
    intro i k hd hi hk
    obtain ⟨k, rfl⟩ : ∃ m, k = m + 1 := ⟨k - 1, by omega⟩
    simp only [ropelinelaw08_ints.l0]
    rw [if_pos (by omega), if_pos (by omega), if_pos (by omega), if_pos (by omega)]
    have hw : wrap64 ((i : Int) + 1) = ((i + 1 : Nat) : Int) := by unfold wrap64; omega
    rw [hw]
    exact ih (i + 1) k (by omega) (by omega) (by omega)
theorem ints_calls (A0 : Option Addr) (c0 : Nat) (A1 : Option Addr) (c1 : Nat) (l : List Int) (w : World) (h0 : Kd.C (Kd.int .i64) w A0 l.length l) (k0 : l.length ≤ c0) (h1 : Kd.C (Kd.int .i64) w A1 l.length l) (k1 : l.length ≤ c1) :
    Calls Try.prog 18 #[.slice A0 l.length c0, .slice A1 l.length c1] w fun e w' => e = .returned (.bool true) ∧ Below w.heap.size w w' := by
  refine (ropelinelaw08_ints.calls (l.length + 1) A0 c0 l A1 c1 l true w h0 k0 h1 k1 ?_).mono fun e w' h => ⟨h.1, h.2.below⟩
  unfold ropelinelaw08_ints.f
  rw [if_pos rfl]
  exact ints_loop l h0.2.1 l.length 0 _ (by omega) (by omega) (by omega)
end Go.Proofs.Ytobjjmdaleoblaa.Co
