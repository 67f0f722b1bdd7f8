/- EventParts, in plain Lean: what stands behind encoded events is decoded behind them. No condition. -/
import Derived.Test.YtmlpbhgdlociiaaEvPure
import Derived.Test.YtmlpbhgdlociiaaEvLawParts
namespace Go.Proofs.Ytmlpbhgdlociiaa.Ev
open Go.RowKit Go.Proofs.YtmlpbhgdlociiaaW.PrintWords Go.Proofs.YtmlpbhgdlociiaaW.PrintLast Go.Proofs.YtmlpbhgdlociiaaW.PrintMore Go.Proofs.Ytmlpbhgdlociiaa.PEventEncodes

theorem rdT_left (l m : List S29) (i : Nat) (h : i < l.length) : rd_T29 (l ++ m) (i : Int) = l[i] := by
  rw [rdT_nat (l ++ m) i (by rw [List.length_append]; omega), List.getElem_append_left h]
theorem rdT_right (l m : List S29) (i : Nat) (h : i < m.length) : rd_T29 (l ++ m) ((l.length + i : Nat) : Int) = m[i] := by
  rw [rdT_nat (l ++ m) (l.length + i) (by rw [List.length_append]; omega), List.getElem_append_right (by omega)]
  simp

theorem parts_from (l m : List S29) (hn : l.length + m.length ≤ 1000) (d : Nat) : ∀ (k i : Nat), l.length + m.length - i ≤ d → d + 5 < k → i ≤ l.length + m.length →
    ropelinelaw24_EventParts.l0 k l m (l ++ m) (((l ++ m).length : Nat) : Int) i = some true := by
  have hlen : (l ++ m).length = l.length + m.length := List.length_append
  induction d with
  | zero =>
    intro k i hd hk hi
    obtain ⟨k, rfl⟩ : ∃ m, k = m + 1 := ⟨k - 1, by omega⟩
    have c : ¬ (i : Int) < (((l ++ m).length : Nat) : Int) := by omega
    simp only [ropelinelaw24_EventParts.l0]
    rw [if_neg c, awake_eq k (by omega), obind]
  | succ d ih =>
    intro k i hd hk hi
    obtain ⟨k, rfl⟩ : ∃ m, k = m + 1 := ⟨k - 1, by omega⟩
    by_cases c : i < l.length + m.length
    · have c1 : (i : Int) < (((l ++ m).length : Nat) : Int) := by omega
      have c2 : (0 : Int) ≤ (i : Int) := by omega
      have hw : wrap64 ((i : Int) + 1) = ((i + 1 : Nat) : Int) := by rw [wrap_in _ (by omega)]; omega
      have hih := ih k (i + 1) (by omega) (by omega) (by omega)
      simp only [ropelinelaw24_EventParts.l0]
      rw [if_pos c1, if_pos c2, if_pos c1, hw]
      by_cases e : i < l.length
      · have e1 : (i : Int) < (l.length : Int) := by omega
        have e2 : ¬ (i : Int) ≥ (l.length : Int) := by omega
        rw [if_pos e1, rdT_left l m i e, rdT_nat l i e, if_neg (by simp), if_neg e2]
        exact hih
      · obtain ⟨j, rfl⟩ : ∃ j, i = l.length + j := ⟨i - l.length, by omega⟩
        have hj : j < m.length := by omega
        have e1 : ¬ ((l.length + j : Nat) : Int) < (l.length : Int) := by omega
        have e2 : ((l.length + j : Nat) : Int) ≥ (l.length : Int) := by omega
        have e3 : wrap64 (((l.length + j : Nat) : Int) - (l.length : Int)) = (j : Int) := by rw [wrap_in _ (by omega)]; omega
        rw [if_neg e1, if_pos e2, e3, if_pos (by omega), if_pos (by omega), rdT_right l m j hj, rdT_nat m j hj, if_neg (by simp)]
        exact hih
    · have c1 : ¬ (i : Int) < (((l ++ m).length : Nat) : Int) := by omega
      simp only [ropelinelaw24_EventParts.l0]
      rw [if_neg c1, awake_eq k (by omega), obind]

theorem EventParts (l : List S29) (b : List Int) (hb : bytes b) : ∃ k, ropelinelaw24_EventParts.f k l b = some true := by
  refine ⟨5000, ?_⟩
  have asleep : ropelinelaw24_EventParts.j0 5000 l b true = some true := by
    simp only [ropelinelaw24_EventParts.j0]
    rw [if_pos trivial, awake_eq 4999 (by omega), obind]
  unfold ropelinelaw24_EventParts.f
  by_cases c : (l.length : Int) > 100
  · rw [if_pos c]; exact asleep
  rw [if_neg c]
  by_cases c' : (b.length : Int) > 100
  · rw [decide_eq_true c']; exact asleep
  rw [decide_eq_false c']
  simp only [ropelinelaw24_EventParts.j0]
  rw [if_neg Bool.false_ne_true, encode_eq l (by omega) 4999 (by omega), obind]
  by_cases hbad : bad l < l.length
  · rw [if_pos hbad, if_neg (by show ¬ (8 : Int) = 0; decide), awake_eq 4999 (by omega), obind]
  · have hl := all_fit hbad
    have hlen := enc_length l
    have hbytes : bytes (enc l ++ b) := fun x hx => by
      rcases List.mem_append.1 hx with hx | hx
      · exact enc_bytes l hl x hx
      · exact hb x hx
    have hdl := dec_length b
    rw [if_neg hbad]
    dsimp only
    rw [if_pos rfl, obind, List.nil_append, if_pos (by rw [List.length_nil]; omega), obind, if_pos (by omega)]
    rw [decode_eq _ hbytes (by rw [List.length_append]; omega) 4999 (by rw [List.length_append]; omega), obind, decode_eq b hb (by omega) 4999 (by omega), obind, dec_enc l hl b]
    rw [if_pos (by rw [List.length_append, wrap_in _ (by omega)]; omega)]
    exact parts_from l (dec b) (by omega) 1000 4999 0 (by omega) (by omega) (by omega)
end Go.Proofs.Ytmlpbhgdlociiaa.Ev
