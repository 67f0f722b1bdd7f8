/- A part of the proof of TopConfig: TpAsmClh. -/
import Derived.Test.YtjopodnlffaogaaGreatDoorQL3
section
namespace Go.Proofs.YtjopodnlffaogaaGreatDoor.Abs
open Tp
set_option maxRecDepth 1000000 in
theorem clh_runs : asmIs (linedI Tryz.prog 1000 C4 [159] 159 [.string clhText] (mkA V1)) (clhL).length (insCells (clhL)) 0 7 = true := by kernel_rfl
theorem clh_asm : AsmOk clhText (clhL) 0 7 := asm_of_run C4_ok clh_runs
end Go.Proofs.YtjopodnlffaogaaGreatDoor.Abs
end
