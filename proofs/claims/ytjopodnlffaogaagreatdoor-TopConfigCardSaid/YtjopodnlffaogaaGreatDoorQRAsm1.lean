/- A part of the proof of TopConfig: TpRAsm1. -/
import Derived.Test.YtjopodnlffaogaaGreatDoorQL4
section
namespace Go.Proofs.YtjopodnlffaogaaGreatDoor.Abs
open Tp
set_option maxRecDepth 1000000 in
theorem k42_rruns : rasmIs (C8 53 [.string k42Text] (mkA [])) (k42L).length (insCells (k42L)) 0 30 = true := by kernel_rfl
theorem k42_rasm : RAsmOk k42Text (k42L) 0 30 := rasm_of_run C8_ok k42_rruns
set_option maxRecDepth 1000000 in
theorem ticket_rruns : rasmIs (C8 53 [.string ticketText] (mkA [])) (ticketL).length (insCells (ticketL)) 0 5 = true := by kernel_rfl
theorem ticket_rasm : RAsmOk ticketText (ticketL) 0 5 := rasm_of_run C8_ok ticket_rruns
end Go.Proofs.YtjopodnlffaogaaGreatDoor.Abs
end
