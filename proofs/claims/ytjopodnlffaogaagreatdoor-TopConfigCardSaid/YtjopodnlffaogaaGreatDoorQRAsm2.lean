/- A part of the proof of TopConfig: TpRAsm2. -/
import Derived.Test.YtjopodnlffaogaaGreatDoorQL4
section
namespace Go.Proofs.YtjopodnlffaogaaGreatDoor.Abs
open Tp
set_option maxRecDepth 1000000 in
theorem mcstry_rruns : rasmIs (C8 53 [.string mcstryText] (mkA [])) (mcstryL).length (insCells (mcstryL)) 0 18 = true := by kernel_rfl
theorem mcstry_rasm : RAsmOk mcstryText (mcstryL) 0 18 := rasm_of_run C8_ok mcstry_rruns
set_option maxRecDepth 1000000 in
theorem clh_rruns : rasmIs (C8 53 [.string clhText] (mkA [])) (clhL).length (insCells (clhL)) 0 7 = true := by kernel_rfl
theorem clh_rasm : RAsmOk clhText (clhL) 0 7 := rasm_of_run C8_ok clh_rruns
end Go.Proofs.YtjopodnlffaogaaGreatDoor.Abs
end
