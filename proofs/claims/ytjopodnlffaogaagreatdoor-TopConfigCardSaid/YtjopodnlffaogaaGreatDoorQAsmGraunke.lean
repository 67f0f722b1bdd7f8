/- A part of the proof of TopConfig: TpAsmGraunke. -/
import Derived.Test.YtjopodnlffaogaaGreatDoorQL3
section
namespace Go.Proofs.YtjopodnlffaogaaGreatDoor.Abs
open Tp
set_option maxRecDepth 1000000 in
theorem graunke_runs : asmIs (linedI Tryz.prog 1000 C4 [159] 159 [.string graunkeText] (mkA V1)) (graunkeL).length (insCells (graunkeL)) 0 11 = true := by kernel_rfl
theorem graunke_asm : AsmOk graunkeText (graunkeL) 0 11 := asm_of_run C4_ok graunke_runs
end Go.Proofs.YtjopodnlffaogaaGreatDoor.Abs
end
