/- A part of the proof of TopSame: TpAsmMcstry. -/
import Derived.Test.YtjopodnlffaogaaGreatDoorSL3
set_option linter.unusedVariables false
set_option linter.unusedSimpArgs false
set_option maxRecDepth 100000
set_option maxHeartbeats 4000000
section
namespace Go.Proofs.YtjopodnlffaogaaGreatDoor.Abs
open Tp
noncomputable def AE:List (Nat × AO):= [(5,.row [.int .u64 1,.int .u64 10,.int .u64 100,.int .u64 1000,.int .u64 10000,.int .u64 100000,.int .u64 1000000,.int .u64 10000000,.int .u64 100000000,.int .u64 1000000000,.int .u64 10000000000,.int .u64 100000000000,.int .u64 1000000000000,.int .u64 10000000000000,.int .u64 100000000000000,.int .u64 1000000000000000,.int .u64 10000000000000000,.int .u64 100000000000000000,.int .u64 1000000000000000000,.int .u64 10000000000000000000] 367 2),
 (8,.row [.iface 384 (.pointer (some ⟨12,0,some 0⟩))] 104 2),
 (13,.row [.slice none 0 0,.int .i64 0,.int .i64 0] 112 0),
 (14,.row [.int .i64 0] 3 0),
 (15,.row [.int .i64 0] 26 0),
 (16,.obj (.map ⟨[⟨.string ⟨⟨[108,111,99,107]⟩⟩,.int .i64 0,0⟩,⟨.string ⟨⟨[103,111,116]⟩⟩,.int .i64 10,1⟩,⟨.string ⟨⟨[108,101,97,118,101]⟩⟩,.int .i64 12,2⟩]⟩ 3)),
 (17,.row [.slice (some ⟨611,0,none⟩) 17 1,.slice (some ⟨618,0,none⟩) 17 1,.slice (some ⟨625,0,none⟩) 17 1,.map (some 16)] 304 0),
 (18,.row [.pointer (some ⟨17,0,none⟩)] 301 0),
 (19,.row [.int .i64 20] 3 0),
 (611,.row [.int .i64 22,.int .i64 7,.int .i64 0,.int .i64 0,.int .i64 0,.int .i64 0,.int .u32 0,.int .i64 0,.int .i64 8,.int .i64 0,.int .i64 7,.int .i64 0,.int .i64 0,.int .i64 0,.int .u32 0,.int .i64 0,.int .i64 17,.int .i64 0,.int .i64 7,.int .i64 0,.int .i64 0,.int .i64 1,.int .u32 0,.int .i64 0,.int .i64 17,.int .i64 0,.int .i64 7,.int .i64 0,.int .i64 0,.int .i64 2,.int .u32 0,.int .i64 0,.int .i64 18,.int .i64 6,.int .i64 0,.int .i64 7,.int .i64 0,.int .i64 0,.int .u32 0,.int .i64 0,.int .i64 12,.int .i64 0,.int .i64 0,.int .i64 0,.int .i64 0,.int .i64 0,.int .u32 1,.int .i64 0,.int .i64 8,.int .i64 0,.int .i64 6,.int .i64 0,.int .i64 0,.int .i64 0,.int .u32 0,.int .i64 0,.int .i64 17,.int .i64 0,.int .i64 6,.int .i64 7,.int .i64 0,.int .i64 1,.int .u32 0,.int .i64 0,.int .i64 1,.int .i64 1,.int .i64 0,.int .i64 0,.int .i64 0,.int .i64 0,.int .u32 1,.int .i64 0,.int .i64 21,.int .i64 2,.int .i64 7,.int .i64 1,.int .i64 0,.int .i64 2,.int .u32 0,.int .i64 0,.int .i64 12,.int .i64 0,.int .i64 0,.int .i64 0,.int .i64 0,.int .i64 0,.int .u32 2,.int .i64 0,.int .i64 13,.int .i64 0,.int .i64 0,.int .i64 0,.int .i64 0,.int .i64 0,.int .u32 1,.int .i64 0,.int .i64 1,.int .i64 3,.int .i64 0,.int .i64 0,.int .i64 0,.int .i64 0,.int .u32 2,.int .i64 0,.int .i64 19,.int .i64 4,.int .i64 7,.int .i64 0,.int .i64 3,.int .i64 2,.int .u32 0,.int .i64 0,.int .i64 8,.int .i64 0,.int .i64 4,.int .i64 0,.int .i64 0,.int .i64 0,.int .u32 0,.int .i64 0,.int .i64 12,.int .i64 0,.int .i64 0,.int .i64 0,.int .i64 0,.int .i64 0,.int .u32 3,.int .i64 0,.int .i64 13,.int .i64 0,.int .i64 0,.int .i64 0,.int .i64 0,.int .i64 0,.int .u32 0,.int .i64 0] 214 1),
 (618,.row [.string ⟨⟨[]⟩⟩,.string ⟨⟨[102,117,108,108]⟩⟩,.string ⟨⟨[]⟩⟩,.string ⟨⟨[]⟩⟩,.string ⟨⟨[]⟩⟩,.string ⟨⟨[]⟩⟩,.string ⟨⟨[103,111,116]⟩⟩,.string ⟨⟨[]⟩⟩,.string ⟨⟨[]⟩⟩,.string ⟨⟨[108,101,97,118,101]⟩⟩,.string ⟨⟨[]⟩⟩,.string ⟨⟨[]⟩⟩,.string ⟨⟨[]⟩⟩,.string ⟨⟨[]⟩⟩,.string ⟨⟨[103,111,116]⟩⟩,.string ⟨⟨[]⟩⟩,.string ⟨⟨[]⟩⟩] 9 1),
 (625,.row [.int .i64 2,.int .i64 3,.int .i64 4,.int .i64 5,.int .i64 6,.int .i64 7,.int .i64 8,.int .i64 9,.int .i64 10,.int .i64 11,.int .i64 13,.int .i64 14,.int .i64 16,.int .i64 17,.int .i64 18,.int .i64 19,.int .i64 20] 3 1)]
set_option maxRecDepth 1000000 in
theorem PF:i7 (gI 159 C4 1000 [.string gZ] (jU V1)) C4 0 20 none 635 AE=true:=by kernel_rfl
set_option maxRecDepth 1000000 in
theorem OL:zV (gI 159 C4 1000 [.string gZ] (jU V1)) C4 1000 (0+20) (some (CC 635 AE)) (fun r=>iS r (gV).length (cG (gV)) 0 18)=true:=by kernel_rfl
set_option maxRecDepth 1000000 in
theorem yU:(gI 159 C4 1000 [.string gZ] (jU V1)).isSome=true:=by kernel_rfl
theorem J4:dZ gZ (gV) 0 18:=nT gQ yU (mY.piece gQ PF (mY.end gQ OL))
end Go.Proofs.YtjopodnlffaogaaGreatDoor.Abs
end
