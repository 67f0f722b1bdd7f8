/- A part of the proof of TopConfig: TpAsmTicket. -/
import Derived.Test.YtjopodnlffaogaaGreatDoorQL3
section
namespace Go.Proofs.YtjopodnlffaogaaGreatDoor.Abs
open Tp
set_option maxRecDepth 1000000 in
theorem ticket_runs : asmIs (linedI Tryz.prog 1000 C4 [159] 159 [.string ticketText] (mkA V1)) (ticketL).length (insCells (ticketL)) 0 5 = true := by kernel_rfl
theorem ticket_asm : AsmOk ticketText (ticketL) 0 5 := asm_of_run C4_ok ticket_runs
end Go.Proofs.YtjopodnlffaogaaGreatDoor.Abs
end
