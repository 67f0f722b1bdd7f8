/- EventDecodes, in plain Lean: any bytes are the events that the reference says, each of which has bytes. No condition beyond those of the row. -/
import Derived.Test.YtmlpbhgdlociiaaEvPure
import Derived.Test.YtmlpbhgdlociiaaEvLawDecodes
namespace Go.Proofs.Ytmlpbhgdlociiaa.Ev
open Go.RowKit Go.Proofs.YtmlpbhgdlociiaaW.PrintWords Go.Proofs.YtmlpbhgdlociiaaW.PrintLast Go.Proofs.YtmlpbhgdlociiaaW.PrintMore Go.Proofs.Ytmlpbhgdlociiaa.PEventEncodes

theorem rdT30_nat (l : List S29) (i : Nat) (h : i < l.length) : rd_T30 (l.map conv) (i : Int) = conv l[i] := by
  unfold rd_T30
  rw [show ((i : Int)).toNat = i by simp, List.getD_eq_getElem?_getD, List.getElem?_map, List.getElem?_eq_getElem h]; rfl

theorem decodes_from (L : List S29) (hL : ∀ x ∈ L, fits x) (hn : L.length ≤ 1000) (d : Nat) : ∀ (k i : Nat), L.length - i ≤ d → d + 5 < k → i ≤ L.length →
    ropelinelaw24_EventDecodes.l0 k (L.map conv) L (L.length : Int) i = some true := by
  induction d with
  | zero =>
    intro k i hd hk hi
    obtain ⟨k, rfl⟩ : ∃ m, k = m + 1 := ⟨k - 1, by omega⟩
    have c : ¬ (i : Int) < (L.length : Int) := by omega
    simp only [ropelinelaw24_EventDecodes.l0]
    rw [if_neg c, awake_eq k (by omega), obind]
  | succ d ih =>
    intro k i hd hk hi
    obtain ⟨k, rfl⟩ : ∃ m, k = m + 1 := ⟨k - 1, by omega⟩
    by_cases c : i < L.length
    · have c1 : (i : Int) < (L.length : Int) := by omega
      have c2 : (0 : Int) ≤ (i : Int) := by omega
      have c3 : (i : Int) < (((L.map conv).length : Nat) : Int) := by rw [List.length_map]; omega
      have hw : wrap64 ((i : Int) + 1) = ((i + 1 : Nat) : Int) := by rw [wrap_in _ (by omega)]; omega
      simp only [ropelinelaw24_EventDecodes.l0]
      rw [if_pos c1, if_pos c2, if_pos c1, rdT_nat L i c, rdT30_nat L i c, hw]
      unfold ropelinelaw23_Ref.f
      rw [obind, if_pos c3, if_neg (by simp [conv]), right_eq, obind, if_pos (decide_eq_true (hL _ (List.getElem_mem c)))]
      exact ih k (i + 1) (by omega) (by omega) (by omega)
    · have c1 : ¬ (i : Int) < (L.length : Int) := by omega
      simp only [ropelinelaw24_EventDecodes.l0]
      rw [if_neg c1, awake_eq k (by omega), obind]

theorem wf_u8 {x : Int} (h : (Lit.int .u8 x).wf = true) : 0 ≤ x ∧ x ≤ 255 := by
  have h' : (decide ((0 : Int) ≤ x) && decide (x ≤ 255)) = true := h
  simp at h'; omega

theorem EventDecodes : ropelinelaw24_EventDecodes.Pure := by
  intro l _ _ hw
  have hl : bytes l := fun x hx => wf_u8 (hw x hx)
  refine ⟨2000, ?_⟩
  unfold ropelinelaw24_EventDecodes.f
  by_cases c : (l.length : Int) > 300
  · rw [if_pos c, awake_eq 2000 (by omega), obind]
  · rw [if_neg c, decode_eq l hl (by omega) 2000 (by omega), obind, refdecode_eq l hl (by omega) 2000 (by omega), obind, if_pos (by rw [List.length_map])]
    have := dec_length l
    exact decodes_from (dec l) (dec_fits l hl) (by omega) 1000 2000 0 (by omega) (by omega) (by omega)
end Go.Proofs.Ytmlpbhgdlociiaa.Ev
