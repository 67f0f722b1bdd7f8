/- EventEncodes, in plain Lean: any events have bytes, or it is told which one has none first; decoded again they are the same, and there are no bytes too many. No condition. -/
import Derived.Test.YtmlpbhgdlociiaaEvPure
import Derived.Test.YtmlpbhgdlociiaaEvLawEncodes
namespace Go.Proofs.Ytmlpbhgdlociiaa.Ev
open Go.RowKit Go.Proofs.YtmlpbhgdlociiaaW.PrintWords Go.Proofs.YtmlpbhgdlociiaaW.PrintLast Go.Proofs.YtmlpbhgdlociiaaW.PrintMore Go.Proofs.Ytmlpbhgdlociiaa.PEventEncodes

theorem rdT30_nat' (l : List S29) (i : Nat) (h : i < l.length) : rd_T30 (l.map conv) (i : Int) = conv l[i] := by
  unfold rd_T30
  rw [show ((i : Int)).toNat = i by simp, List.getD_eq_getElem?_getD, List.getElem?_map, List.getElem?_eq_getElem h]; rfl

/-- The last loop: back is what was encoded. -/
theorem back_from (l : List S29) (hn : l.length ≤ 1000) (d : Nat) : ∀ (k i : Nat), l.length - i ≤ d → d + 5 < k → i ≤ l.length →
    ropelinelaw24_EventEncodes.l1 k l (l.map conv) (l.length : Int) i = some true := by
  induction d with
  | zero =>
    intro k i hd hk hi
    obtain ⟨k, rfl⟩ : ∃ m, k = m + 1 := ⟨k - 1, by omega⟩
    have c : ¬ (i : Int) < (l.length : Int) := by omega
    simp only [ropelinelaw24_EventEncodes.l1]
    rw [if_neg c, awake_eq k (by omega), obind]
  | succ d ih =>
    intro k i hd hk hi
    obtain ⟨k, rfl⟩ : ∃ m, k = m + 1 := ⟨k - 1, by omega⟩
    by_cases c : i < l.length
    · have c1 : (i : Int) < (l.length : Int) := by omega
      have c2 : (0 : Int) ≤ (i : Int) := by omega
      have c3 : (i : Int) < (((l.map conv).length : Nat) : Int) := by rw [List.length_map]; omega
      have hw : wrap64 ((i : Int) + 1) = ((i + 1 : Nat) : Int) := by rw [wrap_in _ (by omega)]; omega
      simp only [ropelinelaw24_EventEncodes.l1]
      rw [if_pos c1, if_pos c2, if_pos c3, if_pos c1, rdT_nat l i c, rdT30_nat' l i c, hw]
      unfold ropelinelaw23_Ref.f
      rw [obind, if_neg (by simp [conv])]
      exact ih k (i + 1) (by omega) (by omega) (by omega)
    · have c1 : ¬ (i : Int) < (l.length : Int) := by omega
      simp only [ropelinelaw24_EventEncodes.l1]
      rw [if_neg c1, awake_eq k (by omega), obind]

/-- The first loop, where one has no bytes. -/
theorem stops_from (l : List S29) (hn : l.length ≤ 1000) (hb : bad l < l.length) (d : Nat) : ∀ (k i : Nat) (s : Int), bad l - i ≤ d → d + 10 < k → i ≤ bad l →
    ropelinelaw24_EventEncodes.l0 k l [] (bad l : Int) 8 s l (l.length : Int) i = some true := by
  induction d with
  | zero =>
    intro k i s hd hk hi
    obtain ⟨k, rfl⟩ : ∃ m, k = m + 1 := ⟨k - 1, by omega⟩
    have e : i = bad l := by omega
    subst e
    have c1 : (bad l : Int) < (l.length : Int) := by omega
    have c2 : (0 : Int) ≤ (bad l : Int) := by omega
    have hf := at_bad hb
    simp only [ropelinelaw24_EventEncodes.l0]
    rw [if_pos c1, if_pos c2, if_pos c1, rdT_nat l _ hb]
    unfold ropelinelaw23_Ref.f
    rw [obind, refright_eq _ k (by omega), obind, right_eq, obind, decide_eq_false hf]
    rw [if_neg (by decide), if_neg (by decide), if_pos (by trivial), if_pos (by trivial), if_pos (by rfl), awake_eq k (by omega), obind]
  | succ d ih =>
    intro k i s hd hk hi
    obtain ⟨k, rfl⟩ : ∃ m, k = m + 1 := ⟨k - 1, by omega⟩
    have c : i < l.length := by omega
    have c1 : (i : Int) < (l.length : Int) := by omega
    have c2 : (0 : Int) ≤ (i : Int) := by omega
    have hw : wrap64 ((i : Int) + 1) = ((i + 1 : Nat) : Int) := by rw [wrap_in _ (by omega)]; omega
    simp only [ropelinelaw24_EventEncodes.l0]
    rw [if_pos c1, if_pos c2, if_pos c1, rdT_nat l i c, hw]
    unfold ropelinelaw23_Ref.f
    rw [obind, refright_eq _ k (by omega), obind, right_eq, obind]
    by_cases e : i = bad l
    · subst e
      have hf := at_bad hb
      rw [decide_eq_false hf]
      rw [if_neg (by decide), if_neg (by decide), if_pos (by trivial), if_pos (by trivial), if_pos (by rfl), awake_eq k (by omega), obind]
    · rw [decide_eq_true (before_bad (show i < bad l by omega) c)]
      rw [if_neg (by decide), if_pos rfl]
      by_cases h4 : l[i].f0 = 4
      · rw [if_pos h4]; exact ih k (i + 1) _ (by omega) (by omega) (by omega)
      · rw [if_neg h4]; exact ih k (i + 1) _ (by omega) (by omega) (by omega)

/-- The first loop, where all have bytes: the size is that of the bytes. -/
theorem goes_from (l : List S29) (hn : l.length ≤ 300) (hl : ∀ x ∈ l, fits x) (d : Nat) : ∀ (k i : Nat), l.length - i ≤ d → d + 2000 < k → i ≤ l.length →
    ropelinelaw24_EventEncodes.l0 k l (enc l) (l.length : Int) 0 ((enc (l.take i)).length : Int) l (l.length : Int) i = some true := by
  have last : ∀ k, 1999 < k → ropelinelaw24_EventEncodes.l0 k l (enc l) (l.length : Int) 0 ((enc (l.take l.length)).length : Int) l (l.length : Int) ((l.length : Nat) : Int) = some true := by
    intro k hk
    obtain ⟨k, rfl⟩ : ∃ m, k = m + 2 := ⟨k - 2, by omega⟩
    have c : ¬ (l.length : Int) < (l.length : Int) := by omega
    have hlen := enc_length l
    have hd : dec (enc l) = l := by have := dec_enc l hl []; rw [List.append_nil, dec_nil, List.append_nil] at this; exact this
    rw [show k + 2 = (k + 1) + 1 from rfl]
    simp only [ropelinelaw24_EventEncodes.l0]
    rw [if_neg c, refdecode_eq (enc l) (enc_bytes l hl) (by omega) (k + 1) (by omega), obind, hd, if_pos trivial, if_pos trivial, if_pos (by rw [List.take_length])]
    simp only [ropelinelaw24_EventEncodes.j1]
    rw [if_neg (by rw [List.length_map]; simp)]
    exact back_from l (by omega) l.length k 0 (by omega) (by omega) (by omega)
  induction d with
  | zero =>
    intro k i hd hk hi
    have e : i = l.length := by omega
    subst e
    exact last k (by omega)
  | succ d ih =>
    intro k i hd hk hi
    by_cases c : i < l.length
    · obtain ⟨k, rfl⟩ : ∃ m, k = m + 1 := ⟨k - 1, by omega⟩
      have c1 : (i : Int) < (l.length : Int) := by omega
      have c2 : (0 : Int) ≤ (i : Int) := by omega
      have hw : wrap64 ((i : Int) + 1) = ((i + 1 : Nat) : Int) := by rw [wrap_in _ (by omega)]; omega
      have hlen := enc_length (l.take i)
      have hti : (l.take i).length ≤ 300 := by rw [List.length_take]; omega
      have hs1 : wrap64 (((enc (l.take i)).length : Int) + 1) = (((enc (l.take i)).length + 1 : Nat) : Int) := by rw [wrap_in _ (by omega)]; omega
      have hs2 : wrap64 ((((enc (l.take i)).length + 1 : Nat) : Int) + 1) = (((enc (l.take i)).length + 2 : Nat) : Int) := by rw [wrap_in _ (by omega)]; omega
      have hf := hl _ (List.getElem_mem c)
      have hih := ih k (i + 1) (by omega) (by omega) (by omega)
      rw [take_snoc c, List.length_append] at hih
      unfold enc1 at hih
      simp only [ropelinelaw24_EventEncodes.l0]
      rw [if_pos c1, if_pos c2, if_pos c1, rdT_nat l i c, hw, hs1, hs2]
      unfold ropelinelaw23_Ref.f
      rw [obind, refright_eq _ k (by omega), obind, right_eq, obind, decide_eq_true hf, if_neg (by decide), if_pos rfl]
      by_cases h4 : l[i].f0 = 4
      · rw [if_pos h4] at hih ⊢; exact hih
      · rw [if_neg h4] at hih ⊢; exact hih
    · have e : i = l.length := by omega
      subst e
      exact last k (by omega)

theorem EventEncodes (l : List S29) : ∃ k, ropelinelaw24_EventEncodes.f k l = some true := by
  refine ⟨5000, ?_⟩
  unfold ropelinelaw24_EventEncodes.f
  by_cases c : (l.length : Int) > 100
  · rw [if_pos c, awake_eq 5000 (by omega), obind]
  · rw [if_neg c, encode_eq l (by omega) 5000 (by omega), obind]
    by_cases hb : bad l < l.length
    · rw [if_pos hb]
      exact stops_from l (by omega) hb 200 5000 0 0 (by omega) (by omega) (by omega)
    · rw [if_neg hb]
      have := goes_from l (by omega) (all_fit hb) 200 5000 0 (by omega) (by omega) (by omega)
      simpa [enc] using this
end Go.Proofs.Ytmlpbhgdlociiaa.Ev
