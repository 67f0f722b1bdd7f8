/- A part of the proof of TopSame: TpAsmGraunke. -/
import Derived.Test.YtjopodnlffaogaaGreatDoorSL3
set_option linter.unusedVariables false
set_option linter.unusedSimpArgs false
set_option maxRecDepth 100000
set_option maxHeartbeats 4000000
section
namespace Go.Proofs.YtjopodnlffaogaaGreatDoor.Abs
open Tp
set_option maxRecDepth 1000000 in
theorem CY:iS (gE Tryz.prog 1000 C4 [159] 159 [.string jL] (jU V1)) (fI).length (cG (fI)) 0 11=true:=by kernel_rfl
theorem GQ:dZ jL (fI) 0 11:=eI gQ CY
end Go.Proofs.YtjopodnlffaogaaGreatDoor.Abs
end
