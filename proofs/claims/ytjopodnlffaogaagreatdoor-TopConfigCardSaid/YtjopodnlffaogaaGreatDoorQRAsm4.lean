/- A part of the proof of TopConfig: TpRAsm4. -/
import Derived.Test.YtjopodnlffaogaaGreatDoorQL4
section
namespace Go.Proofs.YtjopodnlffaogaaGreatDoor.Abs
open Tp
set_option maxRecDepth 1000000 in
theorem anderson0_rruns : rasmIs (C8 53 [.string anderson0Text] (mkA [])) (andersonL 0).length (insCells (andersonL 0)) 0 8 = true := by kernel_rfl
theorem anderson0_rasm : RAsmOk anderson0Text (andersonL 0) 0 8 := rasm_of_run C8_ok anderson0_rruns
set_option maxRecDepth 1000000 in
theorem anderson1_rruns : rasmIs (C8 53 [.string anderson1Text] (mkA [])) (andersonL 1).length (insCells (andersonL 1)) 0 8 = true := by kernel_rfl
theorem anderson1_rasm : RAsmOk anderson1Text (andersonL 1) 0 8 := rasm_of_run C8_ok anderson1_rruns
set_option maxRecDepth 1000000 in
theorem anderson2_rruns : rasmIs (C8 53 [.string anderson2Text] (mkA [])) (andersonL 2).length (insCells (andersonL 2)) 0 8 = true := by kernel_rfl
theorem anderson2_rasm : RAsmOk anderson2Text (andersonL 2) 0 8 := rasm_of_run C8_ok anderson2_rruns
set_option maxRecDepth 1000000 in
theorem anderson3_rruns : rasmIs (C8 53 [.string anderson3Text] (mkA [])) (andersonL 3).length (insCells (andersonL 3)) 0 8 = true := by kernel_rfl
theorem anderson3_rasm : RAsmOk anderson3Text (andersonL 3) 0 8 := rasm_of_run C8_ok anderson3_rruns
set_option maxRecDepth 1000000 in
theorem anderson4_rruns : rasmIs (C8 53 [.string anderson4Text] (mkA [])) (andersonL 4).length (insCells (andersonL 4)) 0 8 = true := by kernel_rfl
theorem anderson4_rasm : RAsmOk anderson4Text (andersonL 4) 0 8 := rasm_of_run C8_ok anderson4_rruns
set_option maxRecDepth 1000000 in
theorem anderson5_rruns : rasmIs (C8 53 [.string anderson5Text] (mkA [])) (andersonL 5).length (insCells (andersonL 5)) 0 8 = true := by kernel_rfl
theorem anderson5_rasm : RAsmOk anderson5Text (andersonL 5) 0 8 := rasm_of_run C8_ok anderson5_rruns
set_option maxRecDepth 1000000 in
theorem anderson6_rruns : rasmIs (C8 53 [.string anderson6Text] (mkA [])) (andersonL 6).length (insCells (andersonL 6)) 0 8 = true := by kernel_rfl
theorem anderson6_rasm : RAsmOk anderson6Text (andersonL 6) 0 8 := rasm_of_run C8_ok anderson6_rruns
end Go.Proofs.YtjopodnlffaogaaGreatDoor.Abs
end
