/- A part of the proof of TopConfig: TpAbs21. -/
import Derived.Test.YtjopodnlffaogaaGreatDoorQL0
section
namespace Go.Proofs.YtjopodnlffaogaaGreatDoor.Abs
open Go.RowKit
def pows : List Value := [.int .u64 1, .int .u64 10, .int .u64 100, .int .u64 1000, .int .u64 10000, .int .u64 100000, .int .u64 1000000, .int .u64 10000000, .int .u64 100000000, .int .u64 1000000000, .int .u64 10000000000, .int .u64 100000000000, .int .u64 1000000000000, .int .u64 10000000000000, .int .u64 100000000000000, .int .u64 1000000000000000, .int .u64 10000000000000000, .int .u64 100000000000000000, .int .u64 1000000000000000000, .int .u64 10000000000000000000]
def V1 : Vars := [(5, pows, 367), (8, [.iface 384 (.pointer (some ⟨12, 0, some 0⟩))], 104)]
noncomputable def I1 : Callee := or (copyCheck 92 98) (atomI 217 207 218 219 220)
noncomputable def C1 : Callee := run Tryz.prog 12 I1 1000 30
theorem I1_ok : CallOk Tryz.prog 12 I1 := or_ok copyCheck_ok atom_ok
theorem wide : Tryz.prog.follows .mixedOrders = true := by kernel_rfl
set_option maxRecDepth 1000000 in
theorem fit1 : okFns 12 (Tryz.prog.funcs.toList.take 150) = true := by kernel_rfl
set_option maxRecDepth 1000000 in
theorem fit2 : okFns 12 (Tryz.prog.funcs.toList.drop 150) = true := by kernel_rfl
theorem fit : Fit Tryz.prog 12 := fit_of fit1 fit2
theorem C1_ok : CallOk Tryz.prog 12 C1 := run_ok I1_ok wide fit 1000 30
def Laid (W : World) : Prop := ∃ ρ, Rel Tryz.prog ρ (mkA V1) W ∧ New ρ 13 ∧ GL 12 ρ
theorem Laid.below {W W' : World} (h : Laid W) (hb : Below W.heap.size W W') : Laid W' := by
  obtain ⟨ρ, h1, h2, h3⟩ := h
  exact ⟨ρ, md_rel h1 ⟨hb.os, hb.tape, hb.output, hb.size, fun i hi _ => hb.block i hi⟩, h2, h3⟩
def says (r : Option (Value × A)) (v : Value) : Bool :=
  match r with
  | some (u, _) => veq u v
  | none => false
theorem known_says {P : Program} {call : Callee} (hc : CallOk P 12 call) {vs : Vars} (hok : varsOk vs = true) {f : FuncId} {args : List Value} {v : Value} (hfa : flatL args = true) (hfv : flat v = true) (h : says (call f args (mkA vs)) v = true) : Known P vs f args v := by
  refine known hc hok hfa hfv ?_
  unfold says at h
  split at h
  · rename_i u a' hq
    rw [hq, veq_eq h]
    rfl
  · cases h
end Go.Proofs.YtjopodnlffaogaaGreatDoor.Abs
end
