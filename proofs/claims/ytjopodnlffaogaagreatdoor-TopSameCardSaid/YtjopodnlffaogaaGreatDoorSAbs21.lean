/- A part of the proof of TopSame: TpAbs21. -/
import Derived.Test.YtjopodnlffaogaaGreatDoorSL0a
set_option linter.unusedVariables false
set_option linter.unusedSimpArgs false
set_option maxRecDepth 100000
set_option maxHeartbeats 4000000
section
namespace Go.Proofs.YtjopodnlffaogaaGreatDoor.Abs
open Go.RowKit
def pows:List Value:= [.int .u64 1,.int .u64 10,.int .u64 100,.int .u64 1000,.int .u64 10000,.int .u64 100000,.int .u64 1000000,.int .u64 10000000,.int .u64 100000000,.int .u64 1000000000,.int .u64 10000000000,.int .u64 100000000000,.int .u64 1000000000000,.int .u64 10000000000000,.int .u64 100000000000000,.int .u64 1000000000000000,.int .u64 10000000000000000,.int .u64 100000000000000000,.int .u64 1000000000000000000,.int .u64 10000000000000000000]
def V1:iR:= [(5,pows,367),(8,[.iface 384 (.pointer (some ⟨12,0,some 0⟩))],104)]
noncomputable def I1:Callee:=or (r9 92 98) (SI 217 207 218 219 220)
noncomputable def C1:Callee:=run Tryz.prog 12 I1 1000 30
theorem AD:bV Tryz.prog 12 I1:=rI BP X7
theorem wide:Tryz.prog.follows .mixedOrders=true:=by kernel_rfl
set_option maxRecDepth 1000000 in
theorem fit1:zS 12 (Tryz.prog.funcs.toList.take 150)=true:=by kernel_rfl
set_option maxRecDepth 1000000 in
theorem fit2:zS 12 (Tryz.prog.funcs.toList.drop 150)=true:=by kernel_rfl
theorem fit:Fit Tryz.prog 12:=fit_of fit1 fit2
theorem QU:bV Tryz.prog 12 C1:=qB AD wide fit 1000 30
def Laid (W:World):Prop:=∃ ρ,Rel Tryz.prog ρ (jU V1) W∧D6 ρ 13∧GL 12 ρ
theorem Laid.below {W W':World} (h:Laid W) (hb:Below W.heap.size W W'):Laid W':=by
 obtain ⟨ρ,h1,h2,h3⟩:=h
 exact ⟨ρ,J1 h1 ⟨hb.os,hb.tape,hb.output,hb.size,fun i hi _=>hb.block i hi⟩,h2,h3⟩
def OM (r:Option (Value × A)) (v:Value):Bool:=
 match r with
 |some (u,_)=>T5 u v
 |none=>false
theorem wF {P:Program} {call:Callee} (hc:bV P 12 call) {vs:iR} (hok:jW vs=true) {f:FuncId} {args:List Value} {v:Value} (hfa:fC args=true) (hfv:flat v=true) (h:OM (call f args (jU vs)) v=true):tJ P vs f args v:=by
 refine known hc hok hfa hfv ?_
 unfold OM at h
 split at h
 ·rename_i u a' hq
  rw [hq,lY h]
  rfl
 ·cases h
end Go.Proofs.YtjopodnlffaogaaGreatDoor.Abs
end
