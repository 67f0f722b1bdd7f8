/- A part of the proof of TopSame: TpAsmClh. -/
import Derived.Test.YtjopodnlffaogaaGreatDoorSL3
set_option linter.unusedVariables false
set_option linter.unusedSimpArgs false
set_option maxRecDepth 100000
set_option maxHeartbeats 4000000
section
namespace Go.Proofs.YtjopodnlffaogaaGreatDoor.Abs
open Tp
set_option maxRecDepth 1000000 in
theorem S5:iS (gE Tryz.prog 1000 C4 [159] 159 [.string qW] (jU V1)) (tZ).length (cG (tZ)) 0 7=true:=by kernel_rfl
theorem WI:dZ qW (tZ) 0 7:=eI gQ S5
end Go.Proofs.YtjopodnlffaogaaGreatDoor.Abs
end
