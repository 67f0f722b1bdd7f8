/- A part of the proof of TopSame: TpAsmClhtry. -/
import Derived.Test.YtjopodnlffaogaaGreatDoorSL3
set_option linter.unusedVariables false
set_option linter.unusedSimpArgs false
set_option maxRecDepth 100000
set_option maxHeartbeats 4000000
section
namespace Go.Proofs.YtjopodnlffaogaaGreatDoor.Abs
open Tp
noncomputable def AB:List (Nat × AO):= [(5,.row [.int .u64 1,.int .u64 10,.int .u64 100,.int .u64 1000,.int .u64 10000,.int .u64 100000,.int .u64 1000000,.int .u64 10000000,.int .u64 100000000,.int .u64 1000000000,.int .u64 10000000000,.int .u64 100000000000,.int .u64 1000000000000,.int .u64 10000000000000,.int .u64 100000000000000,.int .u64 1000000000000000,.int .u64 10000000000000000,.int .u64 100000000000000000,.int .u64 1000000000000000000,.int .u64 10000000000000000000] 367 2),
 (8,.row [.iface 384 (.pointer (some ⟨12,0,some 0⟩))] 104 2),
 (13,.row [.slice none 0 0,.int .i64 0,.int .i64 0] 112 0),
 (14,.row [.int .i64 0] 3 0),
 (15,.row [.int .i64 0] 26 0),
 (16,.obj (.map ⟨[⟨.string ⟨⟨[108,111,99,107]⟩⟩,.int .i64 0,0⟩,⟨.string ⟨⟨[108,111,111,107]⟩⟩,.int .i64 5,1⟩,⟨.string ⟨⟨[103,111,116]⟩⟩,.int .i64 11,2⟩]⟩ 3)),
 (17,.row [.slice (some ⟨475,0,none⟩) 13 1,.slice (some ⟨482,0,none⟩) 13 1,.slice (some ⟨489,0,none⟩) 13 1,.map (some 16)] 304 0),
 (18,.row [.pointer (some ⟨17,0,none⟩)] 301 0),
 (19,.row [.int .i64 16] 3 0),
 (475,.row [.int .i64 22,.int .i64 7,.int .i64 0,.int .i64 0,.int .i64 0,.int .i64 0,.int .u32 0,.int .i64 0,.int .i64 8,.int .i64 0,.int .i64 7,.int .i64 0,.int .i64 0,.int .i64 0,.int .u32 0,.int .i64 0,.int .i64 17,.int .i64 0,.int .i64 7,.int .i64 0,.int .i64 0,.int .i64 1,.int .u32 0,.int .i64 0,.int .i64 18,.int .i64 6,.int .i64 0,.int .i64 7,.int .i64 0,.int .i64 0,.int .u32 0,.int .i64 0,.int .i64 12,.int .i64 0,.int .i64 0,.int .i64 0,.int .i64 0,.int .i64 0,.int .u32 1,.int .i64 0,.int .i64 1,.int .i64 1,.int .i64 0,.int .i64 0,.int .i64 0,.int .i64 0,.int .u32 1,.int .i64 0,.int .i64 21,.int .i64 2,.int .i64 6,.int .i64 0,.int .i64 0,.int .i64 1,.int .u32 1,.int .i64 0,.int .i64 8,.int .i64 0,.int .i64 2,.int .i64 1,.int .i64 0,.int .i64 0,.int .u32 0,.int .i64 0,.int .i64 23,.int .i64 0,.int .i64 6,.int .i64 0,.int .i64 0,.int .i64 0,.int .u32 0,.int .i64 0,.int .i64 3,.int .i64 6,.int .i64 2,.int .i64 0,.int .i64 0,.int .i64 0,.int .u32 4294967294,.int .i64 0,.int .i64 10,.int .i64 0,.int .i64 0,.int .i64 0,.int .i64 0,.int .i64 0,.int .u32 0,.int .i64 0,.int .i64 12,.int .i64 0,.int .i64 0,.int .i64 0,.int .i64 0,.int .i64 0,.int .u32 2,.int .i64 0,.int .i64 23,.int .i64 0,.int .i64 6,.int .i64 0,.int .i64 0,.int .i64 0,.int .u32 0,.int .i64 0] 214 1),
 (482,.row [.string ⟨⟨[]⟩⟩,.string ⟨⟨[102,117,108,108]⟩⟩,.string ⟨⟨[]⟩⟩,.string ⟨⟨[]⟩⟩,.string ⟨⟨[]⟩⟩,.string ⟨⟨[]⟩⟩,.string ⟨⟨[108,101,97,118,101]⟩⟩,.string ⟨⟨[103,111,116]⟩⟩,.string ⟨⟨[]⟩⟩,.string ⟨⟨[]⟩⟩,.string ⟨⟨[108,111,111,107]⟩⟩,.string ⟨⟨[]⟩⟩,.string ⟨⟨[]⟩⟩] 9 1),
 (489,.row [.int .i64 2,.int .i64 3,.int .i64 4,.int .i64 5,.int .i64 6,.int .i64 8,.int .i64 9,.int .i64 10,.int .i64 11,.int .i64 12,.int .i64 13,.int .i64 15,.int .i64 16] 3 1)]
set_option maxRecDepth 1000000 in
theorem OV:i7 (gI 159 C4 1000 [.string gY] (jU V1)) C4 0 16 none 499 AB=true:=by kernel_rfl
set_option maxRecDepth 1000000 in
theorem OB:zV (gI 159 C4 1000 [.string gY] (jU V1)) C4 1000 (0+16) (some (CC 499 AB)) (fun r=>iS r (gR).length (cG (gR)) 0 24)=true:=by kernel_rfl
set_option maxRecDepth 1000000 in
theorem yR:(gI 159 C4 1000 [.string gY] (jU V1)).isSome=true:=by kernel_rfl
theorem JE:dZ gY (gR) 0 24:=nT gQ yR (mY.piece gQ OV (mY.end gQ OB))
end Go.Proofs.YtjopodnlffaogaaGreatDoor.Abs
end
