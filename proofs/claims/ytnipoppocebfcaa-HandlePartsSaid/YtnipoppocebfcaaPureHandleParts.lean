/- HandleParts, over numbers alone: what a word holds, whether it is a handle, and the next one, is what the reference says. No condition. -/
import Derived.Test.YtnipoppocebfcaaPHandlePartsx1
import Derived.Test.YtnipoppocebfcaaHandlePlain
namespace Go.Proofs.Ytnipoppocebfcaa.Pure
open Go.RowKit Go.Proofs.Ytnipoppocebfcaa.PHandleParts Go.Proofs.YtnipoppocebfcaaW.PrintWords Go.Proofs.YtnipoppocebfcaaW.PrintLast
open Go.Proofs.Ytnipoppocebfcaa.HandlePlain

theorem wf_u32 {x : Int} (h : (Lit.int .u32 x).wf = true) : 0 ≤ x ∧ x < 4294967296 := by
  have h' : (decide ((0 : Int) ≤ x) && decide (x ≤ 4294967295)) = true := h
  simp at h'; omega
theorem wf_u16 {x : Int} (h : (Lit.int .u16 x).wf = true) : 0 ≤ x ∧ x < 65536 := by
  have h' : (decide ((0 : Int) ≤ x) && decide (x ≤ 65535)) = true := h
  simp at h'; omega
theorem index_eq (h : Int) (h0 : 0 ≤ h) (h1 : h < 4294967296) : handle_Index.f h = some (h % 4096) := by
  unfold handle_Index.f; rw [and_4095 h h0 h1, wrap_in _ (by omega)]
theorem gen_eq (h : Int) (h0 : 0 ≤ h) (h1 : h < 4294967296) : handle_Gen.f h = some (h / 4096 % 262144) := by
  unfold handle_Gen.f; rw [and_262143 (h / 4096) (by omega) (by omega), wrap_in _ (by omega)]
theorem new_eq (i g : Int) (hg0 : 0 ≤ g) (hg1 : g < 262144) (hi0 : 0 ≤ i) (hi1 : i < 4096) : handle_New.f i g = some (g * 4096 + i, 0) := by
  unfold handle_New.f; rw [if_neg (by omega), if_neg (by omega), if_neg (by omega), if_neg (by omega), new_word i g hg0 hg1 hi0 hi1]; rfl
theorem next_eq (h : Int) (h0 : 0 ≤ h) (h1 : h < 4294967296) : handle_Next.f h = some ((h / 4096 + 1) % 262144 * 4096 + h % 4096) := by
  unfold handle_Next.f
  rw [index_eq h h0 h1, gen_eq h h0 h1]; simp only [Option.bind_some]
  rw [wrap_in _ (by omega), Int.tmod_eq_emod_of_nonneg (by omega), new_eq _ _ (by omega) (by omega) (by omega) (by omega)]
  simp only [Option.bind_some]; congr 1; omega
theorem awake_eq : ropelinelaw01_awake.f = some true := by
  unfold ropelinelaw01_awake.f
  rw [new_eq 5 2 (by omega) (by omega) (by omega) (by omega)]; simp only [Option.bind_some]
  rw [if_pos (by omega), if_pos trivial, next_eq _ (by omega) (by omega)]; simp only [Option.bind_some]; rfl
theorem right_eq (h : Int) : handle_Right.f h = some (decide (h < 1073741824)) := rfl
theorem refIndex_eq (h : Int) (h0 : 0 ≤ h) (h1 : h < 4294967296) : ropelineref01_Index.f h = some (h % 4096) := by
  unfold ropelineref01_Index.f; rw [wrap_in h (by omega), Int.tmod_eq_emod_of_nonneg h0]
theorem refGen_eq (h : Int) (h0 : 0 ≤ h) (h1 : h < 4294967296) : ropelineref01_Gen.f h = some (h / 4096 % 262144) := by
  unfold ropelineref01_Gen.f; rw [wrap_in h (by omega), Int.tdiv_eq_ediv_of_nonneg h0, wrap_in _ (by omega), Int.tmod_eq_emod_of_nonneg (by omega)]
theorem refNext_eq (h : Int) (h0 : 0 ≤ h) (h1 : h < 4294967296) : ropelineref01_Next.f h = some ((h / 4096 + 1) % 262144 * 4096 + h % 4096) := by
  unfold ropelineref01_Next.f
  rw [refGen_eq h h0 h1, refIndex_eq h h0 h1]; simp only [Option.bind_some]
  rw [wrap_in (h / 4096 % 262144 + 1) (by omega)]
  by_cases e : h / 4096 % 262144 + 1 = 262144
  · rw [if_pos e, wrap_in _ (by omega)]; congr 1; omega
  · rw [if_neg e, wrap_in ((h / 4096 % 262144 + 1) * 4096) (by omega), wrap_in _ (by omega)]; congr 1; omega

theorem HandleParts : ropelinelaw01_HandleParts.Pure := by
  intro h wf
  obtain ⟨h0, h1⟩ := wf_u32 wf
  refine ⟨1, ?_⟩
  unfold ropelinelaw01_HandleParts.f
  rw [index_eq h h0 h1, refIndex_eq h h0 h1, gen_eq h h0 h1, refGen_eq h h0 h1, right_eq]; simp only [Option.bind_some]
  rw [if_pos trivial, if_pos trivial]
  simp only [ropelinelaw01_HandleParts.j0]
  rw [next_eq h h0 h1, refNext_eq h h0 h1, awake_eq]
  simp

end Go.Proofs.Ytnipoppocebfcaa.Pure
