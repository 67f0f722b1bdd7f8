/- HandleMakes, over numbers alone: any index and generation have the handle that the reference says, or none, and it has them again. No condition. -/
import Derived.Test.YtnipoppocebfcaaPHandleMakesx1
import Derived.Test.YtnipoppocebfcaaHandlePlain
namespace Go.Proofs.Ytnipoppocebfcaa.Pure
open Go.RowKit Go.Proofs.Ytnipoppocebfcaa.PHandleMakes Go.Proofs.YtnipoppocebfcaaW.PrintWords Go.Proofs.YtnipoppocebfcaaW.PrintLast
open Go.Proofs.Ytnipoppocebfcaa.HandlePlain

theorem wf_u32 {x : Int} (h : (Lit.int .u32 x).wf = true) : 0 ≤ x ∧ x < 4294967296 := by
  have h' : (decide ((0 : Int) ≤ x) && decide (x ≤ 4294967295)) = true := h
  simp at h'; omega
theorem wf_u16 {x : Int} (h : (Lit.int .u16 x).wf = true) : 0 ≤ x ∧ x < 65536 := by
  have h' : (decide ((0 : Int) ≤ x) && decide (x ≤ 65535)) = true := h
  simp at h'; omega
theorem index_eq (h : Int) (h0 : 0 ≤ h) (h1 : h < 4294967296) : handle_Index.f h = some (h % 4096) := by
  unfold handle_Index.f; rw [and_4095 h h0 h1, wrap_in _ (by omega)]
theorem gen_eq (h : Int) (h0 : 0 ≤ h) (h1 : h < 4294967296) : handle_Gen.f h = some (h / 4096 % 262144) := by
  unfold handle_Gen.f; rw [and_262143 (h / 4096) (by omega) (by omega), wrap_in _ (by omega)]
theorem new_eq (i g : Int) (hg0 : 0 ≤ g) (hg1 : g < 262144) (hi0 : 0 ≤ i) (hi1 : i < 4096) : handle_New.f i g = some (g * 4096 + i, 0) := by
  unfold handle_New.f; rw [if_neg (by omega), if_neg (by omega), if_neg (by omega), if_neg (by omega), new_word i g hg0 hg1 hi0 hi1]; rfl
theorem next_eq (h : Int) (h0 : 0 ≤ h) (h1 : h < 4294967296) : handle_Next.f h = some ((h / 4096 + 1) % 262144 * 4096 + h % 4096) := by
  unfold handle_Next.f
  rw [index_eq h h0 h1, gen_eq h h0 h1]; simp only [Option.bind_some]
  rw [wrap_in _ (by omega), Int.tmod_eq_emod_of_nonneg (by omega), new_eq _ _ (by omega) (by omega) (by omega) (by omega)]
  simp only [Option.bind_some]; congr 1; omega
theorem awake_eq : ropelinelaw01_awake.f = some true := by
  unfold ropelinelaw01_awake.f
  rw [new_eq 5 2 (by omega) (by omega) (by omega) (by omega)]; simp only [Option.bind_some]
  rw [if_pos (by omega), if_pos trivial, next_eq _ (by omega) (by omega)]; simp only [Option.bind_some]; rfl
theorem right_eq (h : Int) : handle_Right.f h = some (decide (h < 1073741824)) := rfl
theorem HandleMakes : ropelinelaw01_HandleMakes.Pure := by
  intro i g _ _
  unfold ropelinelaw01_HandleMakes.f
  by_cases c : 0 ≤ i ∧ i < 4096 ∧ 0 ≤ g ∧ g < 262144
  · obtain ⟨hi0, hi1, hg0, hg1⟩ := c
    rw [new_eq i g hg0 hg1 hi0 hi1]
    have e : ropelineref01_New.f i g = some (g * 4096 + i, true) := by
      unfold ropelineref01_New.f
      rw [if_neg (by omega), if_neg (by omega), if_neg (by omega), if_neg (by omega), wrap_in (g * 4096) (by omega), wrap_in _ (by omega)]
      congr 2; omega
    rw [e]; simp only [Option.bind_some]
    rw [if_pos trivial, if_pos trivial, if_pos trivial, right_eq]; simp only [Option.bind_some]
    rw [if_pos (by simp; omega), index_eq _ (by omega) (by omega)]; simp only [Option.bind_some]
    rw [if_pos (by omega), gen_eq _ (by omega) (by omega)]; simp only [Option.bind_some]
    rw [if_pos (by omega), awake_eq]; rfl
  · have e1 : handle_New.f i g = some (0, 1) := by
      unfold handle_New.f
      by_cases a : i < 0
      · rw [if_pos a]
      by_cases b : i ≥ 4096
      · rw [if_neg a, if_pos b]
      by_cases c' : g < 0
      · rw [if_neg a, if_neg b, if_pos c']
      · rw [if_neg a, if_neg b, if_neg c', if_pos (by omega)]
    have e2 : ropelineref01_New.f i g = some (0, false) := by
      unfold ropelineref01_New.f
      by_cases a : i < 0
      · rw [if_pos a]
      by_cases b : i > 4095
      · rw [if_neg a, if_pos b]
      by_cases c' : g < 0
      · rw [if_neg a, if_neg b, if_pos c']
      · rw [if_neg a, if_neg b, if_neg c', if_pos (by omega)]
    rw [e1, e2, awake_eq]; simp

end Go.Proofs.Ytnipoppocebfcaa.Pure
