/- A part of the proof of TopConfig: TpAsmAnderson6. -/
import Derived.Test.YtjopodnlffaogaaGreatDoorQL3
section
namespace Go.Proofs.YtjopodnlffaogaaGreatDoor.Abs
open Tp
def anderson6Text : ByteArray := ⟨#[108, 111, 99, 107, 58, 10, 102, 97, 100, 100, 32, 114, 49, 32, 48, 32, 114, 48, 32, 49, 10, 109, 97, 114, 107, 32, 49, 10, 97, 110, 100, 107, 32, 114, 50, 32, 114, 49, 32, 54, 51, 10, 99, 111, 110, 115, 116, 32, 114, 51, 32, 49, 10, 97, 119, 97, 105, 116, 32, 114, 52, 32, 49, 32, 114, 50, 32, 101, 113, 32, 114, 51, 10, 109, 97, 114, 107, 32, 50, 10, 115, 116, 111, 114, 101, 32, 49, 32, 114, 50, 32, 114, 48, 10, 100, 111, 110, 101, 32, 49, 10, 117, 110, 108, 111, 99, 107, 58, 10, 97, 100, 100, 107, 32, 114, 50, 32, 114, 49, 32, 49, 10, 97, 110, 100, 107, 32, 114, 50, 32, 114, 50, 32, 54, 51, 10, 99, 111, 110, 115, 116, 32, 114, 51, 32, 49, 10, 115, 116, 111, 114, 101, 32, 49, 32, 114, 50, 32, 114, 51, 10, 109, 97, 114, 107, 32, 52, 10, 100, 111, 110, 101, 32, 50, 10]⟩
set_option maxRecDepth 1000000 in
theorem anderson6_runs : asmIs (linedI Tryz.prog 1000 C4 [159] 159 [.string anderson6Text] (mkA V1)) (andersonL 6).length (insCells (andersonL 6)) 0 8 = true := by kernel_rfl
theorem anderson6_asm : AsmOk anderson6Text (andersonL 6) 0 8 := asm_of_run C4_ok anderson6_runs
end Go.Proofs.YtjopodnlffaogaaGreatDoor.Abs
end
