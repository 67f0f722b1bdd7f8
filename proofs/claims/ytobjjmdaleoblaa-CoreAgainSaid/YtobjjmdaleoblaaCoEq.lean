/- Two cores that are one are equal: the comparison says true. -/
import Derived.Test.YtobjjmdaleoblaaCoStep
namespace Go.Proofs.Ytobjjmdaleoblaa.Co
open Go.RowKit Go.Proofs.YtobjjmdaleoblaaW.PrintWords Go.Proofs.YtobjjmdaleoblaaW.PrintLast Go.Proofs.YtobjjmdaleoblaaW.PrintMore Go.Proofs.Ytobjjmdaleoblaa.PCoreRuns
theorem eq32 (d : Nat) (w : World) (a b c e f g h i : Int) :
    (Op.equalIn (d + 2) 32 (.agg #[.int .i64 a, .int .i64 b, .int .i64 c, .int .i64 e, .int .i64 f, .int .i64 g, .int .i64 h, .int .i64 i]) (.agg #[.int .i64 a, .int .i64 b, .int .i64 c, .int .i64 e, .int .i64 f, .int .i64 g, .int .i64 h, .int .i64 i])).run Try.prog w = .ok true w := by
  unfold Op.equalIn
  have hr : List.range' 0 8 = [0, 1, 2, 3, 4, 5, 6, 7] := rfl
  have hag : ∀ w, (isAgg 3).run Try.prog w = .ok false w := fun _ => by kernel_rfl
  have hi3 : ∀ (d : Nat) (w : World) (x : Int), (Op.equalIn (d + 1) 3 (.int .i64 x) (.int .i64 x)).run Try.prog w = .ok true w := fun d w x => by unfold Op.equalIn; simp [run_underlying Try.underlying3]
  simp [run_underlying Try.underlying32, hr, hag, hi3, go_sem]
theorem eq34 (d : Nat) (w : World) (a b c e f g h i p : Int) :
    (Op.equalIn (d + 3) 34 (.agg #[.int .i64 a, .int .i64 b, .int .i64 c, .int .i64 e, .int .i64 f, .int .i64 g, .int .i64 h, .int .i64 i, .int .i64 p]) (.agg #[.int .i64 a, .int .i64 b, .int .i64 c, .int .i64 e, .int .i64 f, .int .i64 g, .int .i64 h, .int .i64 i, .int .i64 p])).run Try.prog w = .ok true w := by
  refine eqA_of Try.underlying34 (by kernel_rfl) ?_
  have hp : (part 3 #[.int .i64 a, .int .i64 b, .int .i64 c, .int .i64 e, .int .i64 f, .int .i64 g, .int .i64 h, .int .i64 i, .int .i64 p] 8).run Try.prog w = .ok (.int .i64 p) w := by go_simp
  have hR : (part 32 #[.int .i64 a, .int .i64 b, .int .i64 c, .int .i64 e, .int .i64 f, .int .i64 g, .int .i64 h, .int .i64 i, .int .i64 p] 0).run Try.prog w = .ok (.agg #[.int .i64 a, .int .i64 b, .int .i64 c, .int .i64 e, .int .i64 f, .int .i64 g, .int .i64 h, .int .i64 i]) w := by kernel_rfl
  have h3 : (Op.equalIn (d + 2) 3 (.int .i64 p) (.int .i64 p)).run Try.prog w = .ok true w := by unfold Op.equalIn; simp [run_underlying Try.underlying3]
  have hz := eqf_last (P := Try.prog) (f := ⟨"Pc", 3, 8, false, "", "", 64⟩) rfl hp hp h3
  exact eqf_cons (P := Try.prog) (f := ⟨"R", 32, 0, false, "", "", 0⟩) rfl hR hR (eq32 d w a b c e f g h i) hz
theorem eq23 (d : Nat) (w : World) (a b c e f g h i : Int) :
    (Op.equalIn (d + 2) 23 (.agg #[.int .u32 a, .int .u32 b, .int .u32 c, .int .u32 e, .int .u32 f, .int .u32 g, .int .u32 h, .int .u32 i]) (.agg #[.int .u32 a, .int .u32 b, .int .u32 c, .int .u32 e, .int .u32 f, .int .u32 g, .int .u32 h, .int .u32 i])).run Try.prog w = .ok true w := by
  unfold Op.equalIn
  have hr : List.range' 0 8 = [0, 1, 2, 3, 4, 5, 6, 7] := rfl
  have hag : ∀ w, (isAgg 22).run Try.prog w = .ok false w := fun _ => by kernel_rfl
  have hi3 : ∀ (d : Nat) (w : World) (x : Int), (Op.equalIn (d + 1) 22 (.int .u32 x) (.int .u32 x)).run Try.prog w = .ok true w := fun d w x => by unfold Op.equalIn; simp [run_underlying Try.underlying22]
  simp [run_underlying Try.underlying23, hr, hag, hi3, go_sem]
theorem eq25 (d : Nat) (w : World) (a b c e f g h i p : Int) :
    (Op.equalIn (d + 3) 25 (.agg #[.int .u32 a, .int .u32 b, .int .u32 c, .int .u32 e, .int .u32 f, .int .u32 g, .int .u32 h, .int .u32 i, .int .i64 p]) (.agg #[.int .u32 a, .int .u32 b, .int .u32 c, .int .u32 e, .int .u32 f, .int .u32 g, .int .u32 h, .int .u32 i, .int .i64 p])).run Try.prog w = .ok true w := by
  refine eqA_of Try.underlying25 (by kernel_rfl) ?_
  have hp : (part 3 #[.int .u32 a, .int .u32 b, .int .u32 c, .int .u32 e, .int .u32 f, .int .u32 g, .int .u32 h, .int .u32 i, .int .i64 p] 8).run Try.prog w = .ok (.int .i64 p) w := by go_simp
  have hR : (part 23 #[.int .u32 a, .int .u32 b, .int .u32 c, .int .u32 e, .int .u32 f, .int .u32 g, .int .u32 h, .int .u32 i, .int .i64 p] 0).run Try.prog w = .ok (.agg #[.int .u32 a, .int .u32 b, .int .u32 c, .int .u32 e, .int .u32 f, .int .u32 g, .int .u32 h, .int .u32 i]) w := by kernel_rfl
  have h3 : (Op.equalIn (d + 2) 3 (.int .i64 p) (.int .i64 p)).run Try.prog w = .ok true w := by unfold Op.equalIn; simp [run_underlying Try.underlying3]
  have hz := eqf_last (P := Try.prog) (f := ⟨"Pc", 3, 8, false, "", "", 32⟩) rfl hp hp h3
  exact eqf_cons (P := Try.prog) (f := ⟨"R", 23, 0, false, "", "", 0⟩) rfl hR hR (eq23 d w a b c e f g h i) hz
end Go.Proofs.Ytobjjmdaleoblaa.Co
