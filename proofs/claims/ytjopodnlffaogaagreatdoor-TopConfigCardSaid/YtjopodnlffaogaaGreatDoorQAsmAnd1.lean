/- A part of the proof of TopConfig: TpAsmAnderson3, TpAsmAnderson4, TpAsmAnderson5. -/
import Derived.Test.YtjopodnlffaogaaGreatDoorQL3
section
namespace Go.Proofs.YtjopodnlffaogaaGreatDoor.Abs
open Tp
def anderson3Text : ByteArray := ⟨#[108, 111, 99, 107, 58, 10, 102, 97, 100, 100, 32, 114, 49, 32, 48, 32, 114, 48, 32, 49, 10, 109, 97, 114, 107, 32, 49, 10, 97, 110, 100, 107, 32, 114, 50, 32, 114, 49, 32, 55, 10, 99, 111, 110, 115, 116, 32, 114, 51, 32, 49, 10, 97, 119, 97, 105, 116, 32, 114, 52, 32, 49, 32, 114, 50, 32, 101, 113, 32, 114, 51, 10, 109, 97, 114, 107, 32, 50, 10, 115, 116, 111, 114, 101, 32, 49, 32, 114, 50, 32, 114, 48, 10, 100, 111, 110, 101, 32, 49, 10, 117, 110, 108, 111, 99, 107, 58, 10, 97, 100, 100, 107, 32, 114, 50, 32, 114, 49, 32, 49, 10, 97, 110, 100, 107, 32, 114, 50, 32, 114, 50, 32, 55, 10, 99, 111, 110, 115, 116, 32, 114, 51, 32, 49, 10, 115, 116, 111, 114, 101, 32, 49, 32, 114, 50, 32, 114, 51, 10, 109, 97, 114, 107, 32, 52, 10, 100, 111, 110, 101, 32, 50, 10]⟩
set_option maxRecDepth 1000000 in
theorem anderson3_runs : asmIs (linedI Tryz.prog 1000 C4 [159] 159 [.string anderson3Text] (mkA V1)) (andersonL 3).length (insCells (andersonL 3)) 0 8 = true := by kernel_rfl
theorem anderson3_asm : AsmOk anderson3Text (andersonL 3) 0 8 := asm_of_run C4_ok anderson3_runs
end Go.Proofs.YtjopodnlffaogaaGreatDoor.Abs
end
section
namespace Go.Proofs.YtjopodnlffaogaaGreatDoor.Abs
open Tp
def anderson4Text : ByteArray := ⟨#[108, 111, 99, 107, 58, 10, 102, 97, 100, 100, 32, 114, 49, 32, 48, 32, 114, 48, 32, 49, 10, 109, 97, 114, 107, 32, 49, 10, 97, 110, 100, 107, 32, 114, 50, 32, 114, 49, 32, 49, 53, 10, 99, 111, 110, 115, 116, 32, 114, 51, 32, 49, 10, 97, 119, 97, 105, 116, 32, 114, 52, 32, 49, 32, 114, 50, 32, 101, 113, 32, 114, 51, 10, 109, 97, 114, 107, 32, 50, 10, 115, 116, 111, 114, 101, 32, 49, 32, 114, 50, 32, 114, 48, 10, 100, 111, 110, 101, 32, 49, 10, 117, 110, 108, 111, 99, 107, 58, 10, 97, 100, 100, 107, 32, 114, 50, 32, 114, 49, 32, 49, 10, 97, 110, 100, 107, 32, 114, 50, 32, 114, 50, 32, 49, 53, 10, 99, 111, 110, 115, 116, 32, 114, 51, 32, 49, 10, 115, 116, 111, 114, 101, 32, 49, 32, 114, 50, 32, 114, 51, 10, 109, 97, 114, 107, 32, 52, 10, 100, 111, 110, 101, 32, 50, 10]⟩
set_option maxRecDepth 1000000 in
theorem anderson4_runs : asmIs (linedI Tryz.prog 1000 C4 [159] 159 [.string anderson4Text] (mkA V1)) (andersonL 4).length (insCells (andersonL 4)) 0 8 = true := by kernel_rfl
theorem anderson4_asm : AsmOk anderson4Text (andersonL 4) 0 8 := asm_of_run C4_ok anderson4_runs
end Go.Proofs.YtjopodnlffaogaaGreatDoor.Abs
end
section
namespace Go.Proofs.YtjopodnlffaogaaGreatDoor.Abs
open Tp
def anderson5Text : ByteArray := ⟨#[108, 111, 99, 107, 58, 10, 102, 97, 100, 100, 32, 114, 49, 32, 48, 32, 114, 48, 32, 49, 10, 109, 97, 114, 107, 32, 49, 10, 97, 110, 100, 107, 32, 114, 50, 32, 114, 49, 32, 51, 49, 10, 99, 111, 110, 115, 116, 32, 114, 51, 32, 49, 10, 97, 119, 97, 105, 116, 32, 114, 52, 32, 49, 32, 114, 50, 32, 101, 113, 32, 114, 51, 10, 109, 97, 114, 107, 32, 50, 10, 115, 116, 111, 114, 101, 32, 49, 32, 114, 50, 32, 114, 48, 10, 100, 111, 110, 101, 32, 49, 10, 117, 110, 108, 111, 99, 107, 58, 10, 97, 100, 100, 107, 32, 114, 50, 32, 114, 49, 32, 49, 10, 97, 110, 100, 107, 32, 114, 50, 32, 114, 50, 32, 51, 49, 10, 99, 111, 110, 115, 116, 32, 114, 51, 32, 49, 10, 115, 116, 111, 114, 101, 32, 49, 32, 114, 50, 32, 114, 51, 10, 109, 97, 114, 107, 32, 52, 10, 100, 111, 110, 101, 32, 50, 10]⟩
set_option maxRecDepth 1000000 in
theorem anderson5_runs : asmIs (linedI Tryz.prog 1000 C4 [159] 159 [.string anderson5Text] (mkA V1)) (andersonL 5).length (insCells (andersonL 5)) 0 8 = true := by kernel_rfl
theorem anderson5_asm : AsmOk anderson5Text (andersonL 5) 0 8 := asm_of_run C4_ok anderson5_runs
end Go.Proofs.YtjopodnlffaogaaGreatDoor.Abs
end
