/- What one instruction keeps: plain. -/
import Derived.Test.YtobjjmdaleoblaaCoStep
namespace Go.Proofs.Ytobjjmdaleoblaa.Co
open Go.RowKit Go.Proofs.YtobjjmdaleoblaaW.PrintWords Go.Proofs.YtobjjmdaleoblaaW.PrintLast Go.Proofs.YtobjjmdaleoblaaW.PrintMore Go.Proofs.Ytobjjmdaleoblaa.PCoreRuns
set_option linter.unusedVariables false
theorem get_set (c : Cr) (i v k : Int) (k0 : 0 ≤ k) (k1 : k < 8) (i0 : 0 ≤ i) (i1 : i < 8) : (c.set i v).get k = if i = k then v else c.get k := by
  have h : k = 0 ∨ k = 1 ∨ k = 2 ∨ k = 3 ∨ k = 4 ∨ k = 5 ∨ k = 6 ∨ k = 7 := by omega
  rcases h with rfl | rfl | rfl | rfl | rfl | rfl | rfl | rfl <;> simp [Cr.get, Cr.set, upd]
theorem get_goto (c : Cr) (p k : Int) : (c.goto p).get k = c.get k := rfl
theorem step_keeps (c : Cr) (i : S27) (self k : Int) (d0 : 0 ≤ i.f1) (d1 : i.f1 < 8) (o1 : 1 ≤ i.f0) (k0 : 0 ≤ k) (k1 : k < 8) (h : ¬ ((1 ≤ i.f0 ∧ i.f0 ≤ 7 ∨ i.f0 = 11) ∧ k = i.f1)) : (step c i self).get k = c.get k := by
  unfold step
  split
  · rfl
  · cases hw : writes c i self with
    | none => rfl
    | some v =>
      show (c.set i.f1 v).get k = c.get k
      have hb : 1 ≤ i.f0 ∧ i.f0 ≤ 7 ∨ i.f0 = 11 := by
        by_cases ho : 1 ≤ i.f0 ∧ i.f0 ≤ 7 ∨ i.f0 = 11
        · exact ho
        · unfold writes at hw
          rw [if_neg (by omega), if_neg (by omega), if_neg (by omega), if_neg (by omega), if_neg (by omega), if_neg (by omega), if_neg (by omega), if_neg (by omega)] at hw
          cases hw
      rw [get_set c i.f1 v k k0 k1 d0 d1, if_neg (fun he => h ⟨hb, he.symm⟩)]
theorem step_mem (c : Cr) (i : S27) (self : Int) (h : 16 ≤ i.f0) : step c i self = c := by
  unfold step
  rw [if_pos (Or.inl h)]
end Go.Proofs.Ytobjjmdaleoblaa.Co
