/- A part of the proof of TopConfig: TpAsmAnderson0, TpAsmAnderson1, TpAsmAnderson2. -/
import Derived.Test.YtjopodnlffaogaaGreatDoorQL3
section
namespace Go.Proofs.YtjopodnlffaogaaGreatDoor.Abs
open Tp
def anderson0Text : ByteArray := ⟨#[108, 111, 99, 107, 58, 10, 102, 97, 100, 100, 32, 114, 49, 32, 48, 32, 114, 48, 32, 49, 10, 109, 97, 114, 107, 32, 49, 10, 97, 110, 100, 107, 32, 114, 50, 32, 114, 49, 32, 48, 10, 99, 111, 110, 115, 116, 32, 114, 51, 32, 49, 10, 97, 119, 97, 105, 116, 32, 114, 52, 32, 49, 32, 114, 50, 32, 101, 113, 32, 114, 51, 10, 109, 97, 114, 107, 32, 50, 10, 115, 116, 111, 114, 101, 32, 49, 32, 114, 50, 32, 114, 48, 10, 100, 111, 110, 101, 32, 49, 10, 117, 110, 108, 111, 99, 107, 58, 10, 97, 100, 100, 107, 32, 114, 50, 32, 114, 49, 32, 49, 10, 97, 110, 100, 107, 32, 114, 50, 32, 114, 50, 32, 48, 10, 99, 111, 110, 115, 116, 32, 114, 51, 32, 49, 10, 115, 116, 111, 114, 101, 32, 49, 32, 114, 50, 32, 114, 51, 10, 109, 97, 114, 107, 32, 52, 10, 100, 111, 110, 101, 32, 50, 10]⟩
set_option maxRecDepth 1000000 in
theorem anderson0_runs : asmIs (linedI Tryz.prog 1000 C4 [159] 159 [.string anderson0Text] (mkA V1)) (andersonL 0).length (insCells (andersonL 0)) 0 8 = true := by kernel_rfl
theorem anderson0_asm : AsmOk anderson0Text (andersonL 0) 0 8 := asm_of_run C4_ok anderson0_runs
end Go.Proofs.YtjopodnlffaogaaGreatDoor.Abs
end
section
namespace Go.Proofs.YtjopodnlffaogaaGreatDoor.Abs
open Tp
def anderson1Text : ByteArray := ⟨#[108, 111, 99, 107, 58, 10, 102, 97, 100, 100, 32, 114, 49, 32, 48, 32, 114, 48, 32, 49, 10, 109, 97, 114, 107, 32, 49, 10, 97, 110, 100, 107, 32, 114, 50, 32, 114, 49, 32, 49, 10, 99, 111, 110, 115, 116, 32, 114, 51, 32, 49, 10, 97, 119, 97, 105, 116, 32, 114, 52, 32, 49, 32, 114, 50, 32, 101, 113, 32, 114, 51, 10, 109, 97, 114, 107, 32, 50, 10, 115, 116, 111, 114, 101, 32, 49, 32, 114, 50, 32, 114, 48, 10, 100, 111, 110, 101, 32, 49, 10, 117, 110, 108, 111, 99, 107, 58, 10, 97, 100, 100, 107, 32, 114, 50, 32, 114, 49, 32, 49, 10, 97, 110, 100, 107, 32, 114, 50, 32, 114, 50, 32, 49, 10, 99, 111, 110, 115, 116, 32, 114, 51, 32, 49, 10, 115, 116, 111, 114, 101, 32, 49, 32, 114, 50, 32, 114, 51, 10, 109, 97, 114, 107, 32, 52, 10, 100, 111, 110, 101, 32, 50, 10]⟩
set_option maxRecDepth 1000000 in
theorem anderson1_runs : asmIs (linedI Tryz.prog 1000 C4 [159] 159 [.string anderson1Text] (mkA V1)) (andersonL 1).length (insCells (andersonL 1)) 0 8 = true := by kernel_rfl
theorem anderson1_asm : AsmOk anderson1Text (andersonL 1) 0 8 := asm_of_run C4_ok anderson1_runs
end Go.Proofs.YtjopodnlffaogaaGreatDoor.Abs
end
section
namespace Go.Proofs.YtjopodnlffaogaaGreatDoor.Abs
open Tp
def anderson2Text : ByteArray := ⟨#[108, 111, 99, 107, 58, 10, 102, 97, 100, 100, 32, 114, 49, 32, 48, 32, 114, 48, 32, 49, 10, 109, 97, 114, 107, 32, 49, 10, 97, 110, 100, 107, 32, 114, 50, 32, 114, 49, 32, 51, 10, 99, 111, 110, 115, 116, 32, 114, 51, 32, 49, 10, 97, 119, 97, 105, 116, 32, 114, 52, 32, 49, 32, 114, 50, 32, 101, 113, 32, 114, 51, 10, 109, 97, 114, 107, 32, 50, 10, 115, 116, 111, 114, 101, 32, 49, 32, 114, 50, 32, 114, 48, 10, 100, 111, 110, 101, 32, 49, 10, 117, 110, 108, 111, 99, 107, 58, 10, 97, 100, 100, 107, 32, 114, 50, 32, 114, 49, 32, 49, 10, 97, 110, 100, 107, 32, 114, 50, 32, 114, 50, 32, 51, 10, 99, 111, 110, 115, 116, 32, 114, 51, 32, 49, 10, 115, 116, 111, 114, 101, 32, 49, 32, 114, 50, 32, 114, 51, 10, 109, 97, 114, 107, 32, 52, 10, 100, 111, 110, 101, 32, 50, 10]⟩
set_option maxRecDepth 1000000 in
theorem anderson2_runs : asmIs (linedI Tryz.prog 1000 C4 [159] 159 [.string anderson2Text] (mkA V1)) (andersonL 2).length (insCells (andersonL 2)) 0 8 = true := by kernel_rfl
theorem anderson2_asm : AsmOk anderson2Text (andersonL 2) 0 8 := asm_of_run C4_ok anderson2_runs
end Go.Proofs.YtjopodnlffaogaaGreatDoor.Abs
end
