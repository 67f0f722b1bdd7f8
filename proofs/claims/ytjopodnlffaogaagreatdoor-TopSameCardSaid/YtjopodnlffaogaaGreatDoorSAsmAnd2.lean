/- A part of the proof of TopSame: TpAsmAnderson6. -/
import Derived.Test.YtjopodnlffaogaaGreatDoorSL3
set_option linter.unusedVariables false
set_option linter.unusedSimpArgs false
set_option maxRecDepth 100000
set_option maxHeartbeats 4000000
section
namespace Go.Proofs.YtjopodnlffaogaaGreatDoor.Abs
open Tp
def lU:ByteArray:=⟨#[108,111,99,107,58,10,102,97,100,100,32,114,49,32,48,32,114,48,32,49,10,109,97,114,107,32,49,10,97,110,100,107,32,114,50,32,114,49,32,54,51,10,99,111,110,115,116,32,114,51,32,49,10,97,119,97,105,116,32,114,52,32,49,32,114,50,32,101,113,32,114,51,10,109,97,114,107,32,50,10,115,116,111,114,101,32,49,32,114,50,32,114,48,10,100,111,110,101,32,49,10,117,110,108,111,99,107,58,10,97,100,100,107,32,114,50,32,114,49,32,49,10,97,110,100,107,32,114,50,32,114,50,32,54,51,10,99,111,110,115,116,32,114,51,32,49,10,115,116,111,114,101,32,49,32,114,50,32,114,51,10,109,97,114,107,32,52,10,100,111,110,101,32,50,10]⟩
set_option maxRecDepth 1000000 in
theorem vY:iS (gE Tryz.prog 1000 C4 [159] 159 [.string lU] (jU V1)) (bT 6).length (cG (bT 6)) 0 8=true:=by kernel_rfl
theorem zL:dZ lU (bT 6) 0 8:=eI gQ vY
end Go.Proofs.YtjopodnlffaogaaGreatDoor.Abs
end
