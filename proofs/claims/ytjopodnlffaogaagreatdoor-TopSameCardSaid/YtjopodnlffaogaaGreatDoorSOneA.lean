/- A part of the proof of TopSame: TpOneA. -/
import Derived.Test.YtjopodnlffaogaaGreatDoorSTab
set_option linter.unusedVariables false
set_option linter.unusedSimpArgs false
set_option maxRecDepth 100000
set_option maxHeartbeats 4000000
section
namespace Go.Proofs.YtjopodnlffaogaaGreatDoor.Abs
def Y9:List (List Value × Value):= [([.string ⟨⟨[102,97,100,100,32,114,49,32,48,32,114,48,32,49]⟩⟩],.tuple ⟨[.agg ⟨[.int .i64 20,.int .i64 1,.int .i64 0,.int .i64 0,.int .i64 0,.int .i64 0,.int .u32 1,.int .i64 0]⟩,.string ⟨⟨[]⟩⟩,.bool true]⟩),
 ([.string ⟨⟨[109,97,114,107,32,49]⟩⟩],.tuple ⟨[.agg ⟨[.int .i64 12,.int .i64 0,.int .i64 0,.int .i64 0,.int .i64 0,.int .i64 0,.int .u32 1,.int .i64 0]⟩,.string ⟨⟨[]⟩⟩,.bool true]⟩),
 ([.string ⟨⟨[97,119,97,105,116,32,114,50,32,49,32,114,48,32,101,113,32,114,49]⟩⟩],.tuple ⟨[.agg ⟨[.int .i64 21,.int .i64 2,.int .i64 0,.int .i64 1,.int .i64 0,.int .i64 1,.int .u32 0,.int .i64 (-1)]⟩,.string ⟨⟨[]⟩⟩,.bool true]⟩)]
set_option maxRecDepth 1000000 in
theorem TY:cF V1 240 Y9:=bO cY dL (by kernel_rfl) (by kernel_rfl)
def oneA1:List (List Value × Value):= [([.string ⟨⟨[109,97,114,107,32,50]⟩⟩],.tuple ⟨[.agg ⟨[.int .i64 12,.int .i64 0,.int .i64 0,.int .i64 0,.int .i64 0,.int .i64 0,.int .u32 2,.int .i64 0]⟩,.string ⟨⟨[]⟩⟩,.bool true]⟩),
 ([.string ⟨⟨[100,111,110,101,32,49]⟩⟩],.tuple ⟨[.agg ⟨[.int .i64 13,.int .i64 0,.int .i64 0,.int .i64 0,.int .i64 0,.int .i64 0,.int .u32 1,.int .i64 0]⟩,.string ⟨⟨[]⟩⟩,.bool true]⟩),
 ([.string ⟨⟨[97,100,100,107,32,114,49,32,114,49,32,49]⟩⟩],.tuple ⟨[.agg ⟨[.int .i64 3,.int .i64 1,.int .i64 1,.int .i64 0,.int .i64 0,.int .i64 0,.int .u32 1,.int .i64 0]⟩,.string ⟨⟨[]⟩⟩,.bool true]⟩)]
set_option maxRecDepth 1000000 in
theorem TQ:cF V1 240 oneA1:=bO cY dL (by kernel_rfl) (by kernel_rfl)
def oneA2:List (List Value × Value):= [([.string ⟨⟨[115,116,111,114,101,32,49,32,114,48,32,114,49]⟩⟩],.tuple ⟨[.agg ⟨[.int .i64 17,.int .i64 0,.int .i64 0,.int .i64 1,.int .i64 0,.int .i64 1,.int .u32 0,.int .i64 0]⟩,.string ⟨⟨[]⟩⟩,.bool true]⟩),
 ([.string ⟨⟨[109,97,114,107,32,52]⟩⟩],.tuple ⟨[.agg ⟨[.int .i64 12,.int .i64 0,.int .i64 0,.int .i64 0,.int .i64 0,.int .i64 0,.int .u32 4,.int .i64 0]⟩,.string ⟨⟨[]⟩⟩,.bool true]⟩),
 ([.string ⟨⟨[100,111,110,101,32,50]⟩⟩],.tuple ⟨[.agg ⟨[.int .i64 13,.int .i64 0,.int .i64 0,.int .i64 0,.int .i64 0,.int .i64 0,.int .u32 2,.int .i64 0]⟩,.string ⟨⟨[]⟩⟩,.bool true]⟩)]
set_option maxRecDepth 1000000 in
theorem U6:cF V1 240 oneA2:=bO cY dL (by kernel_rfl) (by kernel_rfl)
def Y8:List (List Value × Value):= [([.string ⟨⟨[115,101,108,102,32,114,49]⟩⟩],.tuple ⟨[.agg ⟨[.int .i64 11,.int .i64 1,.int .i64 0,.int .i64 0,.int .i64 0,.int .i64 0,.int .u32 0,.int .i64 0]⟩,.string ⟨⟨[]⟩⟩,.bool true]⟩),
 ([.string ⟨⟨[108,111,97,100,32,114,50,32,49,32,114,49]⟩⟩],.tuple ⟨[.agg ⟨[.int .i64 16,.int .i64 2,.int .i64 1,.int .i64 0,.int .i64 0,.int .i64 1,.int .u32 0,.int .i64 0]⟩,.string ⟨⟨[]⟩⟩,.bool true]⟩),
 ([.string ⟨⟨[115,104,108,32,114,51,32,114,49,32,49]⟩⟩],.tuple ⟨[.agg ⟨[.int .i64 5,.int .i64 3,.int .i64 1,.int .i64 0,.int .i64 0,.int .i64 0,.int .u32 1,.int .i64 0]⟩,.string ⟨⟨[]⟩⟩,.bool true]⟩)]
set_option maxRecDepth 1000000 in
theorem Q8:cF V1 240 Y8:=bO cY dL (by kernel_rfl) (by kernel_rfl)
def ZO:List (List Value × Value):= [([.string ⟨⟨[111,114,32,114,51,32,114,51,32,114,50]⟩⟩],.tuple ⟨[.agg ⟨[.int .i64 7,.int .i64 3,.int .i64 3,.int .i64 2,.int .i64 0,.int .i64 0,.int .u32 0,.int .i64 0]⟩,.string ⟨⟨[]⟩⟩,.bool true]⟩),
 ([.string ⟨⟨[115,119,97,112,32,114,52,32,48,32,114,48,32,114,51]⟩⟩],.tuple ⟨[.agg ⟨[.int .i64 18,.int .i64 4,.int .i64 0,.int .i64 3,.int .i64 0,.int .i64 0,.int .u32 0,.int .i64 0]⟩,.string ⟨⟨[]⟩⟩,.bool true]⟩),
 ([.string ⟨⟨[97,110,100,107,32,114,53,32,114,52,32,49]⟩⟩],.tuple ⟨[.agg ⟨[.int .i64 4,.int .i64 5,.int .i64 4,.int .i64 0,.int .i64 0,.int .i64 0,.int .u32 1,.int .i64 0]⟩,.string ⟨⟨[]⟩⟩,.bool true]⟩)]
set_option maxRecDepth 1000000 in
theorem RS:cF V1 240 ZO:=bO cY dL (by kernel_rfl) (by kernel_rfl)
def oneA5:List (List Value × Value):= [([.string ⟨⟨[115,104,114,32,114,54,32,114,52,32,49]⟩⟩],.tuple ⟨[.agg ⟨[.int .i64 6,.int .i64 6,.int .i64 4,.int .i64 0,.int .i64 0,.int .i64 0,.int .u32 1,.int .i64 0]⟩,.string ⟨⟨[]⟩⟩,.bool true]⟩),
 ([.string ⟨⟨[97,119,97,105,116,32,114,52,32,49,32,114,54,32,110,101,32,114,53]⟩⟩],.tuple ⟨[.agg ⟨[.int .i64 21,.int .i64 4,.int .i64 6,.int .i64 5,.int .i64 0,.int .i64 1,.int .u32 1,.int .i64 (-1)]⟩,.string ⟨⟨[]⟩⟩,.bool true]⟩),
 ([.string ⟨⟨[99,111,110,115,116,32,114,51,32,49]⟩⟩],.tuple ⟨[.agg ⟨[.int .i64 1,.int .i64 3,.int .i64 0,.int .i64 0,.int .i64 0,.int .i64 0,.int .u32 1,.int .i64 0]⟩,.string ⟨⟨[]⟩⟩,.bool true]⟩)]
set_option maxRecDepth 1000000 in
theorem TC:cF V1 240 oneA5:=bO cY dL (by kernel_rfl) (by kernel_rfl)
def Z7:List (List Value × Value):= [([.string ⟨⟨[98,101,113,32,114,50,32,114,48,32,116,117,114,110]⟩⟩],.tuple ⟨[.agg ⟨[.int .i64 8,.int .i64 0,.int .i64 2,.int .i64 0,.int .i64 0,.int .i64 0,.int .u32 0,.int .i64 0]⟩,.string ⟨⟨[116,117,114,110]⟩⟩,.bool true]⟩),
 ([.string ⟨⟨[99,111,110,115,116,32,114,51,32,48]⟩⟩],.tuple ⟨[.agg ⟨[.int .i64 1,.int .i64 3,.int .i64 0,.int .i64 0,.int .i64 0,.int .i64 0,.int .u32 0,.int .i64 0]⟩,.string ⟨⟨[]⟩⟩,.bool true]⟩),
 ([.string ⟨⟨[115,116,111,114,101,32,49,32,114,49,32,114,51]⟩⟩],.tuple ⟨[.agg ⟨[.int .i64 17,.int .i64 0,.int .i64 1,.int .i64 3,.int .i64 0,.int .i64 1,.int .u32 0,.int .i64 0]⟩,.string ⟨⟨[]⟩⟩,.bool true]⟩)]
set_option maxRecDepth 1000000 in
theorem P0:cF V1 240 Z7:=bO cY dL (by kernel_rfl) (by kernel_rfl)
def oneA7:List (List Value × Value):= [([.string ⟨⟨[99,111,110,115,116,32,114,49,32,49]⟩⟩],.tuple ⟨[.agg ⟨[.int .i64 1,.int .i64 1,.int .i64 0,.int .i64 0,.int .i64 0,.int .i64 0,.int .u32 1,.int .i64 0]⟩,.string ⟨⟨[]⟩⟩,.bool true]⟩),
 ([.string ⟨⟨[115,116,111,114,101,32,49,32,114,55,32,114,49]⟩⟩],.tuple ⟨[.agg ⟨[.int .i64 17,.int .i64 0,.int .i64 7,.int .i64 1,.int .i64 0,.int .i64 1,.int .u32 0,.int .i64 0]⟩,.string ⟨⟨[]⟩⟩,.bool true]⟩),
 ([.string ⟨⟨[115,119,97,112,32,114,54,32,48,32,114,48,32,114,55]⟩⟩],.tuple ⟨[.agg ⟨[.int .i64 18,.int .i64 6,.int .i64 0,.int .i64 7,.int .i64 0,.int .i64 0,.int .u32 0,.int .i64 0]⟩,.string ⟨⟨[]⟩⟩,.bool true]⟩)]
set_option maxRecDepth 1000000 in
theorem SD:cF V1 240 oneA7:=bO cY dL (by kernel_rfl) (by kernel_rfl)
def oneA:List (List Value × Value):=Y9++(oneA1++(oneA2++(Y8++(ZO++(oneA5++(Z7++(oneA7)))))))
theorem YG:cF V1 240 oneA:=TY.append (TQ.append (U6.append (Q8.append (RS.append (TC.append (P0.append (SD)))))))
end Go.Proofs.YtjopodnlffaogaaGreatDoor.Abs
end
