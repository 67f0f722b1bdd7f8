/- A part of the proof of TopSame: TpOneD. -/
import Derived.Test.YtjopodnlffaogaaGreatDoorSTab
set_option linter.unusedVariables false
set_option linter.unusedSimpArgs false
set_option maxRecDepth 100000
set_option maxHeartbeats 4000000
section
namespace Go.Proofs.YtjopodnlffaogaaGreatDoor.Abs
def Z4:List (List Value × Value):= [([.string ⟨⟨[97,100,100,107,32,114,54,32,114,50,32,52,50,57,52,57,54,55,50,57,52]⟩⟩],.tuple ⟨[.agg ⟨[.int .i64 3,.int .i64 6,.int .i64 2,.int .i64 0,.int .i64 0,.int .i64 0,.int .u32 4294967294,.int .i64 0]⟩,.string ⟨⟨[]⟩⟩,.bool true]⟩),
 ([.string ⟨⟨[106,117,109,112,32,108,111,111,107]⟩⟩],.tuple ⟨[.agg ⟨[.int .i64 10,.int .i64 0,.int .i64 0,.int .i64 0,.int .i64 0,.int .i64 0,.int .u32 0,.int .i64 0]⟩,.string ⟨⟨[108,111,111,107]⟩⟩,.bool true]⟩),
 ([.string ⟨⟨[99,97,115,32,114,51,32,48,32,114,48,32,114,55,32,114,54]⟩⟩],.tuple ⟨[.agg ⟨[.int .i64 19,.int .i64 3,.int .i64 0,.int .i64 7,.int .i64 6,.int .i64 0,.int .u32 0,.int .i64 0]⟩,.string ⟨⟨[]⟩⟩,.bool true]⟩)]
set_option maxRecDepth 1000000 in
theorem SK:cF V1 240 Z4:=bO cY dL (by kernel_rfl) (by kernel_rfl)
def oneD1:List (List Value × Value):= [([.string ⟨⟨[98,101,113,32,114,51,32,114,48,32,115,116,97,121]⟩⟩],.tuple ⟨[.agg ⟨[.int .i64 8,.int .i64 0,.int .i64 3,.int .i64 0,.int .i64 0,.int .i64 0,.int .u32 0,.int .i64 0]⟩,.string ⟨⟨[115,116,97,121]⟩⟩,.bool true]⟩),
 ([.string ⟨⟨[109,97,114,107,32,51]⟩⟩],.tuple ⟨[.agg ⟨[.int .i64 12,.int .i64 0,.int .i64 0,.int .i64 0,.int .i64 0,.int .i64 0,.int .u32 3,.int .i64 0]⟩,.string ⟨⟨[]⟩⟩,.bool true]⟩),
 ([.string ⟨⟨[102,114,101,101,32,114,55]⟩⟩],.tuple ⟨[.agg ⟨[.int .i64 23,.int .i64 0,.int .i64 7,.int .i64 0,.int .i64 0,.int .i64 0,.int .u32 0,.int .i64 0]⟩,.string ⟨⟨[]⟩⟩,.bool true]⟩)]
set_option maxRecDepth 1000000 in
theorem SU:cF V1 240 oneD1:=bO cY dL (by kernel_rfl) (by kernel_rfl)
def ZB:List (List Value × Value):= [([.string ⟨⟨[100,111,110,101,32,48]⟩⟩],.tuple ⟨[.agg ⟨[.int .i64 13,.int .i64 0,.int .i64 0,.int .i64 0,.int .i64 0,.int .i64 0,.int .u32 0,.int .i64 0]⟩,.string ⟨⟨[]⟩⟩,.bool true]⟩),
 ([.string ⟨⟨[97,100,100,107,32,114,51,32,114,54,32,50]⟩⟩],.tuple ⟨[.agg ⟨[.int .i64 3,.int .i64 3,.int .i64 6,.int .i64 0,.int .i64 0,.int .i64 0,.int .u32 2,.int .i64 0]⟩,.string ⟨⟨[]⟩⟩,.bool true]⟩),
 ([.string ⟨⟨[115,116,111,114,101,32,49,32,114,55,32,114,51]⟩⟩],.tuple ⟨[.agg ⟨[.int .i64 17,.int .i64 0,.int .i64 7,.int .i64 3,.int .i64 0,.int .i64 1,.int .u32 0,.int .i64 0]⟩,.string ⟨⟨[]⟩⟩,.bool true]⟩)]
set_option maxRecDepth 1000000 in
theorem QF:cF V1 240 ZB:=bO cY dL (by kernel_rfl) (by kernel_rfl)
def ZD:List (List Value × Value):= [([.string ⟨⟨[100,111,110,101,32,51]⟩⟩],.tuple ⟨[.agg ⟨[.int .i64 13,.int .i64 0,.int .i64 0,.int .i64 0,.int .i64 0,.int .i64 0,.int .u32 3,.int .i64 0]⟩,.string ⟨⟨[]⟩⟩,.bool true]⟩),
 ([.string ⟨⟨[115,116,111,114,101,32,50,32,114,55,32,114,48]⟩⟩],.tuple ⟨[.agg ⟨[.int .i64 17,.int .i64 0,.int .i64 7,.int .i64 0,.int .i64 0,.int .i64 2,.int .u32 0,.int .i64 0]⟩,.string ⟨⟨[]⟩⟩,.bool true]⟩),
 ([.string ⟨⟨[98,101,113,32,114,54,32,114,48,32,103,111,116]⟩⟩],.tuple ⟨[.agg ⟨[.int .i64 8,.int .i64 0,.int .i64 6,.int .i64 0,.int .i64 0,.int .i64 0,.int .u32 0,.int .i64 0]⟩,.string ⟨⟨[103,111,116]⟩⟩,.bool true]⟩)]
set_option maxRecDepth 1000000 in
theorem RT:cF V1 240 ZD:=bO cY dL (by kernel_rfl) (by kernel_rfl)
def oneD4:List (List Value × Value):= [([.string ⟨⟨[115,116,111,114,101,32,49,32,114,54,32,114,55]⟩⟩],.tuple ⟨[.agg ⟨[.int .i64 17,.int .i64 0,.int .i64 6,.int .i64 7,.int .i64 0,.int .i64 1,.int .u32 0,.int .i64 0]⟩,.string ⟨⟨[]⟩⟩,.bool true]⟩),
 ([.string ⟨⟨[97,119,97,105,116,32,114,50,32,50,32,114,55,32,101,113,32,114,49,32,101,108,115,101,32,108,101,97,118,101]⟩⟩],.tuple ⟨[.agg ⟨[.int .i64 21,.int .i64 2,.int .i64 7,.int .i64 1,.int .i64 0,.int .i64 2,.int .u32 0,.int .i64 0]⟩,.string ⟨⟨[108,101,97,118,101]⟩⟩,.bool true]⟩),
 ([.string ⟨⟨[99,111,110,115,116,32,114,51,32,50]⟩⟩],.tuple ⟨[.agg ⟨[.int .i64 1,.int .i64 3,.int .i64 0,.int .i64 0,.int .i64 0,.int .i64 0,.int .u32 2,.int .i64 0]⟩,.string ⟨⟨[]⟩⟩,.bool true]⟩)]
set_option maxRecDepth 1000000 in
theorem RM:cF V1 240 oneD4:=bO cY dL (by kernel_rfl) (by kernel_rfl)
def ZC:List (List Value × Value):= [([.string ⟨⟨[99,97,115,32,114,52,32,50,32,114,55,32,114,48,32,114,51]⟩⟩],.tuple ⟨[.agg ⟨[.int .i64 19,.int .i64 4,.int .i64 7,.int .i64 0,.int .i64 3,.int .i64 2,.int .u32 0,.int .i64 0]⟩,.string ⟨⟨[]⟩⟩,.bool true]⟩),
 ([.string ⟨⟨[108,111,97,100,32,114,54,32,49,32,114,55]⟩⟩],.tuple ⟨[.agg ⟨[.int .i64 16,.int .i64 6,.int .i64 7,.int .i64 0,.int .i64 0,.int .i64 1,.int .u32 0,.int .i64 0]⟩,.string ⟨⟨[]⟩⟩,.bool true]⟩),
 ([.string ⟨⟨[98,110,101,32,114,54,32,114,48,32,104,97,110,100]⟩⟩],.tuple ⟨[.agg ⟨[.int .i64 9,.int .i64 0,.int .i64 6,.int .i64 0,.int .i64 0,.int .i64 0,.int .u32 0,.int .i64 0]⟩,.string ⟨⟨[104,97,110,100]⟩⟩,.bool true]⟩)]
set_option maxRecDepth 1000000 in
theorem RW:cF V1 240 ZC:=bO cY dL (by kernel_rfl) (by kernel_rfl)
def oneD6:List (List Value × Value):= [([.string ⟨⟨[99,97,115,32,114,52,32,48,32,114,48,32,114,55,32,114,48]⟩⟩],.tuple ⟨[.agg ⟨[.int .i64 19,.int .i64 4,.int .i64 0,.int .i64 7,.int .i64 0,.int .i64 0,.int .u32 0,.int .i64 0]⟩,.string ⟨⟨[]⟩⟩,.bool true]⟩),
 ([.string ⟨⟨[98,101,113,32,114,52,32,114,48,32,108,105,110,107]⟩⟩],.tuple ⟨[.agg ⟨[.int .i64 8,.int .i64 0,.int .i64 4,.int .i64 0,.int .i64 0,.int .i64 0,.int .u32 0,.int .i64 0]⟩,.string ⟨⟨[108,105,110,107]⟩⟩,.bool true]⟩),
 ([.string ⟨⟨[97,119,97,105,116,32,114,54,32,49,32,114,55,32,110,101,32,114,48]⟩⟩],.tuple ⟨[.agg ⟨[.int .i64 21,.int .i64 6,.int .i64 7,.int .i64 0,.int .i64 0,.int .i64 1,.int .u32 1,.int .i64 (-1)]⟩,.string ⟨⟨[]⟩⟩,.bool true]⟩)]
set_option maxRecDepth 1000000 in
theorem TL:cF V1 240 oneD6:=bO cY dL (by kernel_rfl) (by kernel_rfl)
def ZL:List (List Value × Value):= [([.string ⟨⟨[99,97,115,32,114,52,32,50,32,114,54,32,114,48,32,114,49]⟩⟩],.tuple ⟨[.agg ⟨[.int .i64 19,.int .i64 4,.int .i64 6,.int .i64 0,.int .i64 1,.int .i64 2,.int .u32 0,.int .i64 0]⟩,.string ⟨⟨[]⟩⟩,.bool true]⟩),
 ([.string ⟨⟨[98,101,113,32,114,52,32,114,48,32,115,107,105,112]⟩⟩],.tuple ⟨[.agg ⟨[.int .i64 8,.int .i64 0,.int .i64 4,.int .i64 0,.int .i64 0,.int .i64 0,.int .u32 0,.int .i64 0]⟩,.string ⟨⟨[115,107,105,112]⟩⟩,.bool true]⟩),
 ([.string ⟨⟨[106,117,109,112,32,117,110,108,111,99,107]⟩⟩],.tuple ⟨[.agg ⟨[.int .i64 10,.int .i64 0,.int .i64 0,.int .i64 0,.int .i64 0,.int .i64 0,.int .u32 0,.int .i64 0]⟩,.string ⟨⟨[117,110,108,111,99,107]⟩⟩,.bool true]⟩)]
set_option maxRecDepth 1000000 in
theorem UL:cF V1 240 ZL:=bO cY dL (by kernel_rfl) (by kernel_rfl)
def oneD:List (List Value × Value):=Z4++(oneD1++(ZB++(ZD++(oneD4++(ZC++(oneD6++(ZL)))))))
theorem YA:cF V1 240 oneD:=SK.append (SU.append (QF.append (RT.append (RM.append (RW.append (TL.append (UL)))))))
end Go.Proofs.YtjopodnlffaogaaGreatDoor.Abs
end
