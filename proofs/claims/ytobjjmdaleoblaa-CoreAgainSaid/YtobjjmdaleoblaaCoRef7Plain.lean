/- ropelinelaw07.Ref: it copies a program; and the copy reads as the program. Condition: fewer than 2^41 instructions. -/
import Derived.Test.YtobjjmdaleoblaaCoRef07
import Derived.Test.YtobjjmdaleoblaaCoRunWords
namespace Go.Proofs.Ytobjjmdaleoblaa.Co
open Go.RowKit Go.Proofs.YtobjjmdaleoblaaW.PrintWords Go.Proofs.YtobjjmdaleoblaaW.PrintLast Go.Proofs.YtobjjmdaleoblaaW.PrintMore Go.Proofs.Ytobjjmdaleoblaa.PCoreRuns
set_option linter.unusedVariables false
set_option linter.unusedSimpArgs false
def to29 (i : S27) : S29 := ⟨i.f0, i.f1, i.f2, i.f3, i.f4, i.f5, i.f6, i.f7⟩
theorem reads29 {w : World} {A : Option Addr} {n : Nat} {l : List S27} (h : Kd.C k29 w A n (l.map to29)) : Kd.C k27 w A n l := by
  obtain ⟨h1, h2, h3⟩ := h
  refine ⟨by simpa using h1, h2, fun hn => ?_⟩
  obtain ⟨ad, hA, h4⟩ := h3 hn
  refine ⟨ad, hA, fun j e hj => ?_⟩
  have := h4 j (to29 e) (by rw [List.getElem?_map, hj]; rfl)
  exact this
theorem ref7_loop (l : List S27) (lo un : Int) (hl : l.length < 2199023255552) : ∀ (d i k : Nat) (acc : List S29), d = l.length - i → i ≤ l.length → d < k → acc.length = i →
    ropelinelaw07_Ref.l0 k l (l.length : Int) (i : Int) acc lo un = some (acc ++ (l.drop i).map to29, lo, un) := by
  intro d
  induction d with
  | zero =>
    intro i k acc hd hi hk ha
    obtain ⟨k, rfl⟩ : ∃ m, k = m + 1 := ⟨k - 1, by omega⟩
    have : i = l.length := by omega
    subst this
    simp only [ropelinelaw07_Ref.l0]
    rw [if_neg (by omega), List.drop_length, List.map_nil, List.append_nil]
  | succ d ih =>
    intro i k acc hd hi hk ha
    obtain ⟨k, rfl⟩ : ∃ m, k = m + 1 := ⟨k - 1, by omega⟩
    have hlt : i < l.length := by omega
    simp only [ropelinelaw07_Ref.l0]
    rw [if_pos (by omega), if_pos (by omega), if_pos (by omega)]
    have hr : rd_T27 l (i : Int) = l[i] := by unfold rd_T27; simp [List.getD_eq_getElem?_getD, hlt]
    rw [hr]
    simp only [ropelinelaw06_Ref.f]
    have hw : wrap64 ((i : Int) + 1) = ((i + 1 : Nat) : Int) := by unfold wrap64; omega
    have hx := ih (i + 1) k (acc ++ [to29 l[i]]) (by omega) (by omega) (by omega) (by simp; omega)
    rw [List.drop_eq_getElem_cons hlt, List.map_cons]
    rw [List.append_assoc, List.singleton_append] at hx
    rw [← hx, ← hw]
    exact (if_pos (by omega) : (if acc.length < 2199023255552 then ropelinelaw07_Ref.l0 k l (l.length : Int) (wrap64 ((i : Int) + 1)) (acc ++ [to29 l[i]]) lo un else none) = _)
theorem ref7_f (l : List S27) (lo un : Int) (hl : l.length < 2199023255552) : ropelinelaw07_Ref.f (l.length + 1) l lo un = some (l.map to29, lo, un) := by
  have h := ref7_loop l lo un hl l.length 0 (l.length + 1) [] (by omega) (by omega) (by omega) rfl
  simpa [ropelinelaw07_Ref.f] using h
/-- What a copy comes to. -/
def RefPost (l : List S27) (lo un : Int) (w : World) (e : Ending) (w' : World) : Prop :=
  ∃ (A : Option Addr) (cap : Nat), e = .returned (.agg #[.slice A l.length cap, .int .i64 lo, .int .i64 un]) ∧ l.length ≤ cap ∧ Kd.C k27 w' A l.length l ∧ Below w.heap.size w w'
theorem ref7_calls (A : Option Addr) (cap : Nat) (l : List S27) (lo un : Int) (w : World) (hl : Kd.C k27 w A l.length l) (hc : l.length ≤ cap) (hn : l.length ≤ 64) :
    Calls Try.prog 15 #[.agg #[.slice A l.length cap, .int .i64 lo, .int .i64 un]] w (RefPost l lo un w) := by
  refine (ropelinelaw07_Ref.calls (l.length + 1) A cap l lo un (l.map to29) lo un w hl hc (ref7_f l lo un (by omega))).mono fun e w' h => ?_
  obtain ⟨v, he, hr, hb⟩ := h
  obtain ⟨B, c, rfl, h1, h2⟩ := Kd.R_reads hr
  rw [List.length_map] at he h1 h2
  exact ⟨B, c, he, h1, reads29 h2, hb⟩
end Go.Proofs.Ytobjjmdaleoblaa.Co
