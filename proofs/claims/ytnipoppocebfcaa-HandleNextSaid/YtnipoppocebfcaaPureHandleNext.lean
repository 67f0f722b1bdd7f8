/- HandleNext, over numbers alone: the next ones of a handle keep its index, are handles, and none of the first 299 of them is it again. No condition. -/
import Derived.Test.YtnipoppocebfcaaPHandleNextx1
import Derived.Test.YtnipoppocebfcaaHandlePlain
namespace Go.Proofs.Ytnipoppocebfcaa.Pure
open Go.RowKit Go.Proofs.Ytnipoppocebfcaa.PHandleNext Go.Proofs.YtnipoppocebfcaaW.PrintWords Go.Proofs.YtnipoppocebfcaaW.PrintLast
open Go.Proofs.Ytnipoppocebfcaa.HandlePlain

theorem wf_u32 {x : Int} (h : (Lit.int .u32 x).wf = true) : 0 ≤ x ∧ x < 4294967296 := by
  have h' : (decide ((0 : Int) ≤ x) && decide (x ≤ 4294967295)) = true := h
  simp at h'; omega
theorem wf_u16 {x : Int} (h : (Lit.int .u16 x).wf = true) : 0 ≤ x ∧ x < 65536 := by
  have h' : (decide ((0 : Int) ≤ x) && decide (x ≤ 65535)) = true := h
  simp at h'; omega
theorem index_eq (h : Int) (h0 : 0 ≤ h) (h1 : h < 4294967296) : handle_Index.f h = some (h % 4096) := by
  unfold handle_Index.f; rw [and_4095 h h0 h1, wrap_in _ (by omega)]
theorem gen_eq (h : Int) (h0 : 0 ≤ h) (h1 : h < 4294967296) : handle_Gen.f h = some (h / 4096 % 262144) := by
  unfold handle_Gen.f; rw [and_262143 (h / 4096) (by omega) (by omega), wrap_in _ (by omega)]
theorem new_eq (i g : Int) (hg0 : 0 ≤ g) (hg1 : g < 262144) (hi0 : 0 ≤ i) (hi1 : i < 4096) : handle_New.f i g = some (g * 4096 + i, 0) := by
  unfold handle_New.f; rw [if_neg (by omega), if_neg (by omega), if_neg (by omega), if_neg (by omega), new_word i g hg0 hg1 hi0 hi1]; rfl
theorem next_eq (h : Int) (h0 : 0 ≤ h) (h1 : h < 4294967296) : handle_Next.f h = some ((h / 4096 + 1) % 262144 * 4096 + h % 4096) := by
  unfold handle_Next.f
  rw [index_eq h h0 h1, gen_eq h h0 h1]; simp only [Option.bind_some]
  rw [wrap_in _ (by omega), Int.tmod_eq_emod_of_nonneg (by omega), new_eq _ _ (by omega) (by omega) (by omega) (by omega)]
  simp only [Option.bind_some]; congr 1; omega
theorem awake_eq : ropelinelaw01_awake.f = some true := by
  unfold ropelinelaw01_awake.f
  rw [new_eq 5 2 (by omega) (by omega) (by omega) (by omega)]; simp only [Option.bind_some]
  rw [if_pos (by omega), if_pos trivial, next_eq _ (by omega) (by omega)]; simp only [Option.bind_some]; rfl
theorem right_eq (h : Int) : handle_Right.f h = some (decide (h < 1073741824)) := rfl
theorem step_facts (h x i y n : Int) (hi : 0 ≤ i) (hn : n < 300) (c : i < n) (xi : x % 4096 = h % 4096) (xg : x / 4096 % 262144 = (h / 4096 + i) % 262144)
    (hy : y = (x / 4096 + 1) % 262144 * 4096 + x % 4096) :
    0 ≤ y ∧ y < 1073741824 ∧ y % 4096 = h % 4096 ∧ y / 4096 % 262144 = (h / 4096 + (i + 1)) % 262144 ∧ ¬ y = h ∧ y / 4096 % 262144 = (x / 4096 % 262144 + 1) % 262144 := by
  refine ⟨by omega, by omega, by omega, by omega, ?_, by omega⟩
  intro e; rw [e] at hy; omega
theorem wrap_step (x : Int) : (wrap64 (x / 4096 % 262144 + 1)).tmod 262144 = (x / 4096 % 262144 + 1) % 262144 := by
  rw [wrap_in _ (by omega), Int.tmod_eq_emod_of_nonneg (by omega)]

/-- Behind i rounds the word x holds h's index and the generation i further. -/
theorem loop (h n : Int) (h0 : 0 ≤ h) (h1 : h < 4294967296) (hn : n < 300) (d : Nat) : ∀ (k : Nat) (x i : Int), 0 ≤ i → n - i ≤ d → d < k →
    0 ≤ x → x < 4294967296 → x % 4096 = h % 4096 → x / 4096 % 262144 = (h / 4096 + i) % 262144 →
    ropelinelaw01_HandleNext.l0 k h x n i = some true := by
  induction d with
  | zero =>
    intro k x i hi hd hk _ _ _ _
    obtain ⟨k, rfl⟩ : ∃ m, k = m + 1 := ⟨k - 1, by omega⟩
    have hc : ¬ i < n := by omega
    simp only [ropelinelaw01_HandleNext.l0]; rw [if_neg hc, awake_eq]; rfl
  | succ d ih =>
    intro k x i hi hd hk x0 x1 xi xg
    obtain ⟨k, rfl⟩ : ∃ m, k = m + 1 := ⟨k - 1, by omega⟩
    simp only [ropelinelaw01_HandleNext.l0]
    by_cases c : i < n
    · have hi1 : 0 ≤ i + 1 := by omega
      have hw : wrap64 (i + 1) = i + 1 := wrap_in (i + 1) (by omega)
      have hd1 : n - (i + 1) ≤ d := by omega
      have hk1 : d < k := by omega
      rw [if_pos c, next_eq x x0 x1, hw]; simp only [obind]
      obtain ⟨y, hy⟩ : ∃ y, y = (x / 4096 + 1) % 262144 * 4096 + x % 4096 := ⟨_, rfl⟩
      rw [← hy]
      obtain ⟨y0, y1, yi, yg, yh, yx⟩ := step_facts h x i y n hi hn c xi xg hy
      have y2 : y < 4294967296 := by omega
      have yr : decide (y < 1073741824) = true := decide_eq_true y1
      rw [index_eq y y0 y2, index_eq h h0 h1]; simp only [obind]
      rw [if_pos yi, right_eq]; simp only [obind]
      rw [if_pos yr, if_neg yh, gen_eq y y0 y2, gen_eq x x0 x1]; simp only [obind]
      rw [wrap_step, if_pos yx]
      exact ih k y (i + 1) hi1 hd1 hk1 y0 y2 yi yg
    · rw [if_neg c, awake_eq]; rfl

theorem HandleNext : ropelinelaw01_HandleNext.Pure := by
  intro h n wh wn
  obtain ⟨h0, h1⟩ := wf_u32 wh
  obtain ⟨n0, n1⟩ := wf_u16 wn
  refine ⟨301, ?_⟩
  unfold ropelinelaw01_HandleNext.f
  rw [wrap_in n (by omega), Int.tmod_eq_emod_of_nonneg n0]
  exact loop h (n % 300) h0 h1 (by omega) 300 301 h 0 (by omega) (by omega) (by omega) h0 h1 rfl (by omega)

end Go.Proofs.Ytnipoppocebfcaa.Pure
