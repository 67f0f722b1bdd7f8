/- Two cores that are one: what the comparison answers, as an operation. -/
import Derived.Test.YtobjjmdaleoblaaCoEq
namespace Go.Proofs.Ytobjjmdaleoblaa.Co
open Go.RowKit Go.Proofs.YtobjjmdaleoblaaW.PrintWords Go.Proofs.YtobjjmdaleoblaaW.PrintLast Go.Proofs.YtobjjmdaleoblaaW.PrintMore Go.Proofs.Ytobjjmdaleoblaa.PCoreRuns
theorem eqg34 (x y : Operand) (a b : Cr) (w : World) : (eqGuard .eql 34 x y a.ref b.ref).run Try.prog w = .ok () w := by
  have hg : Try.prog.eqGuardType Try.prog.depth 34 = false := by kernel_rfl
  unfold eqGuard Cr.ref
  simp [hg, go_sem]
theorem eqo34 (a : Cr) (w : World) : (binOp .eql 34 a.ref a.ref).run Try.prog w = .ok (.bool true) w := by
  have h : (Op.equal 34 a.ref a.ref).run Try.prog w = .ok true w := eq34 (Op.maxDepth - 3) w _ _ _ _ _ _ _ _ _
  unfold Cr.ref at h ⊢
  unfold binOp
  simp [h, go_sem]
theorem eqg25 (x y : Operand) (a b : Cr) (w : World) : (eqGuard .eql 25 x y a.val b.val).run Try.prog w = .ok () w := by
  have hg : Try.prog.eqGuardType Try.prog.depth 25 = false := by kernel_rfl
  unfold eqGuard Cr.val
  simp [hg, go_sem]
theorem eqo25 (a : Cr) (w : World) : (binOp .eql 25 a.val a.val).run Try.prog w = .ok (.bool true) w := by
  have h : (Op.equal 25 a.val a.val).run Try.prog w = .ok true w := eq25 (Op.maxDepth - 3) w _ _ _ _ _ _ _ _ _
  unfold Cr.val at h ⊢
  unfold binOp
  simp [h, go_sem]
end Go.Proofs.Ytobjjmdaleoblaa.Co
