/- A part of the proof of TopSame: TpOneC. -/
import Derived.Test.YtjopodnlffaogaaGreatDoorSTab
set_option linter.unusedVariables false
set_option linter.unusedSimpArgs false
set_option maxRecDepth 100000
set_option maxHeartbeats 4000000
section
namespace Go.Proofs.YtjopodnlffaogaaGreatDoor.Abs
def ZS:List (List Value × Value):= [([.string ⟨⟨[99,97,115,32,114,53,32,48,32,114,48,32,114,52,32,114,50]⟩⟩],.tuple ⟨[.agg ⟨[.int .i64 19,.int .i64 5,.int .i64 0,.int .i64 4,.int .i64 2,.int .i64 0,.int .u32 0,.int .i64 0]⟩,.string ⟨⟨[]⟩⟩,.bool true]⟩),
 ([.string ⟨⟨[98,101,113,32,114,52,32,114,51,32,102,105,114,115,116]⟩⟩],.tuple ⟨[.agg ⟨[.int .i64 8,.int .i64 0,.int .i64 4,.int .i64 3,.int .i64 0,.int .i64 0,.int .u32 0,.int .i64 0]⟩,.string ⟨⟨[102,105,114,115,116]⟩⟩,.bool true]⟩),
 ([.string ⟨⟨[97,100,100,107,32,114,52,32,114,52,32,52,50,57,52,57,54,55,50,57,52]⟩⟩],.tuple ⟨[.agg ⟨[.int .i64 3,.int .i64 4,.int .i64 4,.int .i64 0,.int .i64 0,.int .i64 0,.int .u32 4294967294,.int .i64 0]⟩,.string ⟨⟨[]⟩⟩,.bool true]⟩)]
set_option maxRecDepth 1000000 in
theorem TA:cF V1 240 ZS:=bO cY dL (by kernel_rfl) (by kernel_rfl)
def oneC1:List (List Value × Value):= [([.string ⟨⟨[115,116,111,114,101,32,50,32,114,52,32,114,50]⟩⟩],.tuple ⟨[.agg ⟨[.int .i64 17,.int .i64 0,.int .i64 4,.int .i64 2,.int .i64 0,.int .i64 2,.int .u32 0,.int .i64 0]⟩,.string ⟨⟨[]⟩⟩,.bool true]⟩),
 ([.string ⟨⟨[106,117,109,112,32,119,97,105,116]⟩⟩],.tuple ⟨[.agg ⟨[.int .i64 10,.int .i64 0,.int .i64 0,.int .i64 0,.int .i64 0,.int .i64 0,.int .u32 0,.int .i64 0]⟩,.string ⟨⟨[119,97,105,116]⟩⟩,.bool true]⟩),
 ([.string ⟨⟨[115,116,111,114,101,32,49,32,114,48,32,114,50]⟩⟩],.tuple ⟨[.agg ⟨[.int .i64 17,.int .i64 0,.int .i64 0,.int .i64 2,.int .i64 0,.int .i64 1,.int .u32 0,.int .i64 0]⟩,.string ⟨⟨[]⟩⟩,.bool true]⟩)]
set_option maxRecDepth 1000000 in
theorem R5:cF V1 240 oneC1:=bO cY dL (by kernel_rfl) (by kernel_rfl)
def ZY:List (List Value × Value):= [([.string ⟨⟨[97,119,97,105,116,32,114,53,32,51,32,114,49,32,101,113,32,114,48]⟩⟩],.tuple ⟨[.agg ⟨[.int .i64 21,.int .i64 5,.int .i64 1,.int .i64 0,.int .i64 0,.int .i64 3,.int .u32 0,.int .i64 (-1)]⟩,.string ⟨⟨[]⟩⟩,.bool true]⟩),
 ([.string ⟨⟨[108,111,97,100,32,114,52,32,50,32,114,49]⟩⟩],.tuple ⟨[.agg ⟨[.int .i64 16,.int .i64 4,.int .i64 1,.int .i64 0,.int .i64 0,.int .i64 2,.int .u32 0,.int .i64 0]⟩,.string ⟨⟨[]⟩⟩,.bool true]⟩),
 ([.string ⟨⟨[98,110,101,32,114,52,32,114,48,32,104,97,115]⟩⟩],.tuple ⟨[.agg ⟨[.int .i64 9,.int .i64 0,.int .i64 4,.int .i64 0,.int .i64 0,.int .i64 0,.int .u32 0,.int .i64 0]⟩,.string ⟨⟨[104,97,115]⟩⟩,.bool true]⟩)]
set_option maxRecDepth 1000000 in
theorem P5:cF V1 240 ZY:=bO cY dL (by kernel_rfl) (by kernel_rfl)
def ZK:List (List Value × Value):= [([.string ⟨⟨[115,116,111,114,101,32,49,32,114,48,32,114,48]⟩⟩],.tuple ⟨[.agg ⟨[.int .i64 17,.int .i64 0,.int .i64 0,.int .i64 0,.int .i64 0,.int .i64 1,.int .u32 0,.int .i64 0]⟩,.string ⟨⟨[]⟩⟩,.bool true]⟩),
 ([.string ⟨⟨[99,97,115,32,114,53,32,48,32,114,48,32,114,50,32,114,51]⟩⟩],.tuple ⟨[.agg ⟨[.int .i64 19,.int .i64 5,.int .i64 0,.int .i64 2,.int .i64 3,.int .i64 0,.int .u32 0,.int .i64 0]⟩,.string ⟨⟨[]⟩⟩,.bool true]⟩),
 ([.string ⟨⟨[98,110,101,32,114,53,32,114,48,32,111,117,116]⟩⟩],.tuple ⟨[.agg ⟨[.int .i64 9,.int .i64 0,.int .i64 5,.int .i64 0,.int .i64 0,.int .i64 0,.int .u32 0,.int .i64 0]⟩,.string ⟨⟨[111,117,116]⟩⟩,.bool true]⟩)]
set_option maxRecDepth 1000000 in
theorem QN:cF V1 240 ZK:=bO cY dL (by kernel_rfl) (by kernel_rfl)
def ZA:List (List Value × Value):= [([.string ⟨⟨[97,119,97,105,116,32,114,52,32,50,32,114,49,32,110,101,32,114,48]⟩⟩],.tuple ⟨[.agg ⟨[.int .i64 21,.int .i64 4,.int .i64 1,.int .i64 0,.int .i64 0,.int .i64 2,.int .u32 1,.int .i64 (-1)]⟩,.string ⟨⟨[]⟩⟩,.bool true]⟩),
 ([.string ⟨⟨[115,116,111,114,101,32,49,32,114,48,32,114,52]⟩⟩],.tuple ⟨[.agg ⟨[.int .i64 17,.int .i64 0,.int .i64 0,.int .i64 4,.int .i64 0,.int .i64 1,.int .u32 0,.int .i64 0]⟩,.string ⟨⟨[]⟩⟩,.bool true]⟩),
 ([.string ⟨⟨[108,111,97,100,32,114,52,32,49,32,114,48]⟩⟩],.tuple ⟨[.agg ⟨[.int .i64 16,.int .i64 4,.int .i64 0,.int .i64 0,.int .i64 0,.int .i64 1,.int .u32 0,.int .i64 0]⟩,.string ⟨⟨[]⟩⟩,.bool true]⟩)]
set_option maxRecDepth 1000000 in
theorem U7:cF V1 240 ZA:=bO cY dL (by kernel_rfl) (by kernel_rfl)
def ZI:List (List Value × Value):= [([.string ⟨⟨[99,97,115,32,114,53,32,48,32,114,48,32,114,51,32,114,48]⟩⟩],.tuple ⟨[.agg ⟨[.int .i64 19,.int .i64 5,.int .i64 0,.int .i64 3,.int .i64 0,.int .i64 0,.int .u32 0,.int .i64 0]⟩,.string ⟨⟨[]⟩⟩,.bool true]⟩),
 ([.string ⟨⟨[98,101,113,32,114,53,32,114,48,32,98,101,104,105,110,100]⟩⟩],.tuple ⟨[.agg ⟨[.int .i64 8,.int .i64 0,.int .i64 5,.int .i64 0,.int .i64 0,.int .i64 0,.int .u32 0,.int .i64 0]⟩,.string ⟨⟨[98,101,104,105,110,100]⟩⟩,.bool true]⟩),
 ([.string ⟨⟨[97,119,97,105,116,32,114,52,32,49,32,114,48,32,110,101,32,114,48]⟩⟩],.tuple ⟨[.agg ⟨[.int .i64 21,.int .i64 4,.int .i64 0,.int .i64 0,.int .i64 0,.int .i64 1,.int .u32 1,.int .i64 (-1)]⟩,.string ⟨⟨[]⟩⟩,.bool true]⟩)]
set_option maxRecDepth 1000000 in
theorem P6:cF V1 240 ZI:=bO cY dL (by kernel_rfl) (by kernel_rfl)
def ZH:List (List Value × Value):= [([.string ⟨⟨[115,116,111,114,101,32,51,32,114,52,32,114,48]⟩⟩],.tuple ⟨[.agg ⟨[.int .i64 17,.int .i64 0,.int .i64 4,.int .i64 0,.int .i64 0,.int .i64 3,.int .u32 0,.int .i64 0]⟩,.string ⟨⟨[]⟩⟩,.bool true]⟩),
 ([.string ⟨⟨[116,97,107,101,32,114,55]⟩⟩],.tuple ⟨[.agg ⟨[.int .i64 22,.int .i64 7,.int .i64 0,.int .i64 0,.int .i64 0,.int .i64 0,.int .u32 0,.int .i64 0]⟩,.string ⟨⟨[]⟩⟩,.bool true]⟩),
 ([.string ⟨⟨[98,101,113,32,114,55,32,114,48,32,102,117,108,108]⟩⟩],.tuple ⟨[.agg ⟨[.int .i64 8,.int .i64 0,.int .i64 7,.int .i64 0,.int .i64 0,.int .i64 0,.int .u32 0,.int .i64 0]⟩,.string ⟨⟨[102,117,108,108]⟩⟩,.bool true]⟩)]
set_option maxRecDepth 1000000 in
theorem QD:cF V1 240 ZH:=bO cY dL (by kernel_rfl) (by kernel_rfl)
def Z2:List (List Value × Value):= [([.string ⟨⟨[97,119,97,105,116,32,114,50,32,49,32,114,54,32,110,101,32,114,48,32,101,108,115,101,32,108,101,97,118,101]⟩⟩],.tuple ⟨[.agg ⟨[.int .i64 21,.int .i64 2,.int .i64 6,.int .i64 0,.int .i64 0,.int .i64 1,.int .u32 1,.int .i64 0]⟩,.string ⟨⟨[108,101,97,118,101]⟩⟩,.bool true]⟩),
 ([.string ⟨⟨[98,101,113,32,114,50,32,114,49,32,103,111,116]⟩⟩],.tuple ⟨[.agg ⟨[.int .i64 8,.int .i64 0,.int .i64 2,.int .i64 1,.int .i64 0,.int .i64 0,.int .u32 0,.int .i64 0]⟩,.string ⟨⟨[103,111,116]⟩⟩,.bool true]⟩),
 ([.string ⟨⟨[102,114,101,101,32,114,54]⟩⟩],.tuple ⟨[.agg ⟨[.int .i64 23,.int .i64 0,.int .i64 6,.int .i64 0,.int .i64 0,.int .i64 0,.int .u32 0,.int .i64 0]⟩,.string ⟨⟨[]⟩⟩,.bool true]⟩)]
set_option maxRecDepth 1000000 in
theorem Q9:cF V1 240 Z2:=bO cY dL (by kernel_rfl) (by kernel_rfl)
def oneC:List (List Value × Value):=ZS++(oneC1++(ZY++(ZK++(ZA++(ZI++(ZH++(Z2)))))))
theorem WV:cF V1 240 oneC:=TA.append (R5.append (P5.append (QN.append (U7.append (P6.append (QD.append (Q9)))))))
end Go.Proofs.YtjopodnlffaogaaGreatDoor.Abs
end
