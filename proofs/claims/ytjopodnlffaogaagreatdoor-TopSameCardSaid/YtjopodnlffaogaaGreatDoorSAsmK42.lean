/- A part of the proof of TopSame: TpAsmK42. -/
import Derived.Test.YtjopodnlffaogaaGreatDoorSL3
set_option linter.unusedVariables false
set_option linter.unusedSimpArgs false
set_option maxRecDepth 100000
set_option maxHeartbeats 4000000
section
namespace Go.Proofs.YtjopodnlffaogaaGreatDoor.Abs
open Tp
noncomputable def QI:List (Nat × AO):= [(5,.row [.int .u64 1,.int .u64 10,.int .u64 100,.int .u64 1000,.int .u64 10000,.int .u64 100000,.int .u64 1000000,.int .u64 10000000,.int .u64 100000000,.int .u64 1000000000,.int .u64 10000000000,.int .u64 100000000000,.int .u64 1000000000000,.int .u64 10000000000000,.int .u64 100000000000000,.int .u64 1000000000000000,.int .u64 10000000000000000,.int .u64 100000000000000000,.int .u64 1000000000000000000,.int .u64 10000000000000000000] 367 2),
 (8,.row [.iface 384 (.pointer (some ⟨12,0,some 0⟩))] 104 2),
 (13,.row [.slice none 0 0,.int .i64 0,.int .i64 0] 112 0),
 (14,.row [.int .i64 0] 3 0),
 (15,.row [.int .i64 0] 26 0),
 (16,.obj (.map ⟨[⟨.string ⟨⟨[108,111,99,107]⟩⟩,.int .i64 0,0⟩,⟨.string ⟨⟨[97,103,97,105,110]⟩⟩,.int .i64 3,1⟩,⟨.string ⟨⟨[113,117,101,117,101]⟩⟩,.int .i64 10,2⟩]⟩ 3)),
 (17,.row [.slice (some ⟨679,0,none⟩) 19 1,.slice (some ⟨686,0,none⟩) 19 1,.slice (some ⟨693,0,none⟩) 19 1,.map (some 16)] 304 0),
 (18,.row [.pointer (some ⟨17,0,none⟩)] 301 0),
 (19,.row [.int .i64 22] 3 0),
 (679,.row [.int .i64 11,.int .i64 1,.int .i64 0,.int .i64 0,.int .i64 0,.int .i64 0,.int .u32 0,.int .i64 0,.int .i64 3,.int .i64 2,.int .i64 1,.int .i64 0,.int .i64 0,.int .i64 0,.int .u32 2,.int .i64 0,.int .i64 1,.int .i64 3,.int .i64 0,.int .i64 0,.int .i64 0,.int .i64 0,.int .u32 1,.int .i64 0,.int .i64 16,.int .i64 4,.int .i64 0,.int .i64 0,.int .i64 0,.int .i64 0,.int .u32 0,.int .i64 0,.int .i64 9,.int .i64 0,.int .i64 4,.int .i64 0,.int .i64 0,.int .i64 0,.int .u32 0,.int .i64 0,.int .i64 19,.int .i64 5,.int .i64 0,.int .i64 0,.int .i64 3,.int .i64 0,.int .u32 0,.int .i64 0,.int .i64 8,.int .i64 0,.int .i64 5,.int .i64 0,.int .i64 0,.int .i64 0,.int .u32 0,.int .i64 0,.int .i64 12,.int .i64 0,.int .i64 0,.int .i64 0,.int .i64 0,.int .i64 0,.int .u32 1,.int .i64 0,.int .i64 12,.int .i64 0,.int .i64 0,.int .i64 0,.int .i64 0,.int .i64 0,.int .u32 2,.int .i64 0,.int .i64 13,.int .i64 0,.int .i64 0,.int .i64 0,.int .i64 0,.int .i64 0,.int .u32 1,.int .i64 0,.int .i64 17,.int .i64 0,.int .i64 1,.int .i64 0,.int .i64 0,.int .i64 2,.int .u32 0,.int .i64 0,.int .i64 17,.int .i64 0,.int .i64 1,.int .i64 3,.int .i64 0,.int .i64 3,.int .u32 0,.int .i64 0,.int .i64 19,.int .i64 5,.int .i64 0,.int .i64 4,.int .i64 2,.int .i64 0,.int .u32 0,.int .i64 0,.int .i64 8,.int .i64 0,.int .i64 5,.int .i64 0,.int .i64 0,.int .i64 0,.int .u32 0,.int .i64 0,.int .i64 12,.int .i64 0,.int .i64 0,.int .i64 0,.int .i64 0,.int .i64 0,.int .u32 1,.int .i64 0,.int .i64 8,.int .i64 0,.int .i64 4,.int .i64 3,.int .i64 0,.int .i64 0,.int .u32 0,.int .i64 0,.int .i64 3,.int .i64 4,.int .i64 4,.int .i64 0,.int .i64 0,.int .i64 0,.int .u32 4294967294,.int .i64 0,.int .i64 17,.int .i64 0,.int .i64 4,.int .i64 2,.int .i64 0,.int .i64 2,.int .u32 0,.int .i64 0,.int .i64 10,.int .i64 0,.int .i64 0,.int .i64 0,.int .i64 0,.int .i64 0,.int .u32 0,.int .i64 0] 214 1),
 (686,.row [.string ⟨⟨[]⟩⟩,.string ⟨⟨[]⟩⟩,.string ⟨⟨[]⟩⟩,.string ⟨⟨[]⟩⟩,.string ⟨⟨[113,117,101,117,101]⟩⟩,.string ⟨⟨[]⟩⟩,.string ⟨⟨[97,103,97,105,110]⟩⟩,.string ⟨⟨[]⟩⟩,.string ⟨⟨[]⟩⟩,.string ⟨⟨[]⟩⟩,.string ⟨⟨[]⟩⟩,.string ⟨⟨[]⟩⟩,.string ⟨⟨[]⟩⟩,.string ⟨⟨[97,103,97,105,110]⟩⟩,.string ⟨⟨[]⟩⟩,.string ⟨⟨[102,105,114,115,116]⟩⟩,.string ⟨⟨[]⟩⟩,.string ⟨⟨[]⟩⟩,.string ⟨⟨[119,97,105,116]⟩⟩] 9 1),
 (693,.row [.int .i64 2,.int .i64 3,.int .i64 4,.int .i64 6,.int .i64 7,.int .i64 8,.int .i64 9,.int .i64 10,.int .i64 11,.int .i64 12,.int .i64 14,.int .i64 15,.int .i64 16,.int .i64 17,.int .i64 18,.int .i64 19,.int .i64 20,.int .i64 21,.int .i64 22] 3 1)]
set_option maxRecDepth 1000000 in
theorem k42_p0:i7 (gI 159 C4 1000 [.string mU] (jU V1)) C4 0 22 none 703 QI=true:=by kernel_rfl
set_option maxRecDepth 1000000 in
theorem k42_p1:zV (gI 159 C4 1000 [.string mU] (jU V1)) C4 1000 (0+22) (some (CC 703 QI)) (fun r=>iS r (uE).length (cG (uE)) 0 30)=true:=by kernel_rfl
set_option maxRecDepth 1000000 in
theorem I6:(gI 159 C4 1000 [.string mU] (jU V1)).isSome=true:=by kernel_rfl
theorem Y2:dZ mU (uE) 0 30:=nT gQ I6 (mY.piece gQ k42_p0 (mY.end gQ k42_p1))
end Go.Proofs.YtjopodnlffaogaaGreatDoor.Abs
end
