/- A part of the proof of TopConfig: TpRAsm3. -/
import Derived.Test.YtjopodnlffaogaaGreatDoorQL4
section
namespace Go.Proofs.YtjopodnlffaogaaGreatDoor.Abs
open Tp
set_option maxRecDepth 1000000 in
theorem clhtry_rruns : rasmIs (C8 53 [.string clhtryText] (mkA [])) (clhtryL).length (insCells (clhtryL)) 0 24 = true := by kernel_rfl
theorem clhtry_rasm : RAsmOk clhtryText (clhtryL) 0 24 := rasm_of_run C8_ok clhtry_rruns
set_option maxRecDepth 1000000 in
theorem mcs_rruns : rasmIs (C8 53 [.string mcsText] (mkA [])) (mcsL).length (insCells (mcsL)) 0 13 = true := by kernel_rfl
theorem mcs_rasm : RAsmOk mcsText (mcsL) 0 13 := rasm_of_run C8_ok mcs_rruns
set_option maxRecDepth 1000000 in
theorem graunke_rruns : rasmIs (C8 53 [.string graunkeText] (mkA [])) (graunkeL).length (insCells (graunkeL)) 0 11 = true := by kernel_rfl
theorem graunke_rasm : RAsmOk graunkeText (graunkeL) 0 11 := rasm_of_run C8_ok graunke_rruns
end Go.Proofs.YtjopodnlffaogaaGreatDoor.Abs
end
