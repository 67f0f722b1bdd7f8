/- A part of the proof of TopSame: TpAsmTicket. -/
import Derived.Test.YtjopodnlffaogaaGreatDoorSL3
set_option linter.unusedVariables false
set_option linter.unusedSimpArgs false
set_option maxRecDepth 100000
set_option maxHeartbeats 4000000
section
namespace Go.Proofs.YtjopodnlffaogaaGreatDoor.Abs
open Tp
set_option maxRecDepth 1000000 in
theorem FP:iS (gE Tryz.prog 1000 C4 [159] 159 [.string kS] (jU V1)) (gW).length (cG (gW)) 0 5=true:=by kernel_rfl
theorem KK:dZ kS (gW) 0 5:=eI gQ FP
end Go.Proofs.YtjopodnlffaogaaGreatDoor.Abs
end
