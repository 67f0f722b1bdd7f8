/- A part of the proof of TopSame: TpOneB. -/
import Derived.Test.YtjopodnlffaogaaGreatDoorSTab
set_option linter.unusedVariables false
set_option linter.unusedSimpArgs false
set_option maxRecDepth 100000
set_option maxHeartbeats 4000000
section
namespace Go.Proofs.YtjopodnlffaogaaGreatDoor.Abs
def ZP:List (List Value × Value):= [([.string ⟨⟨[97,119,97,105,116,32,114,49,32,49,32,114,54,32,101,113,32,114,48]⟩⟩],.tuple ⟨[.agg ⟨[.int .i64 21,.int .i64 1,.int .i64 6,.int .i64 0,.int .i64 0,.int .i64 1,.int .u32 0,.int .i64 (-1)]⟩,.string ⟨⟨[]⟩⟩,.bool true]⟩),
 ([.string ⟨⟨[115,116,111,114,101,32,49,32,114,55,32,114,48]⟩⟩],.tuple ⟨[.agg ⟨[.int .i64 17,.int .i64 0,.int .i64 7,.int .i64 0,.int .i64 0,.int .i64 1,.int .u32 0,.int .i64 0]⟩,.string ⟨⟨[]⟩⟩,.bool true]⟩),
 ([.string ⟨⟨[109,111,118,101,32,114,55,32,114,54]⟩⟩],.tuple ⟨[.agg ⟨[.int .i64 2,.int .i64 7,.int .i64 6,.int .i64 0,.int .i64 0,.int .i64 0,.int .u32 0,.int .i64 0]⟩,.string ⟨⟨[]⟩⟩,.bool true]⟩)]
set_option maxRecDepth 1000000 in
theorem TB:cF V1 240 ZP:=bO cY dL (by kernel_rfl) (by kernel_rfl)
def ZR:List (List Value × Value):= [([.string ⟨⟨[97,100,100,107,32,114,50,32,114,49,32,49]⟩⟩],.tuple ⟨[.agg ⟨[.int .i64 3,.int .i64 2,.int .i64 1,.int .i64 0,.int .i64 0,.int .i64 0,.int .u32 1,.int .i64 0]⟩,.string ⟨⟨[]⟩⟩,.bool true]⟩),
 ([.string ⟨⟨[115,116,111,114,101,32,49,32,114,49,32,114,48]⟩⟩],.tuple ⟨[.agg ⟨[.int .i64 17,.int .i64 0,.int .i64 1,.int .i64 0,.int .i64 0,.int .i64 1,.int .u32 0,.int .i64 0]⟩,.string ⟨⟨[]⟩⟩,.bool true]⟩),
 ([.string ⟨⟨[115,116,111,114,101,32,50,32,114,49,32,114,51]⟩⟩],.tuple ⟨[.agg ⟨[.int .i64 17,.int .i64 0,.int .i64 1,.int .i64 3,.int .i64 0,.int .i64 2,.int .u32 0,.int .i64 0]⟩,.string ⟨⟨[]⟩⟩,.bool true]⟩)]
set_option maxRecDepth 1000000 in
theorem R8:cF V1 240 ZR:=bO cY dL (by kernel_rfl) (by kernel_rfl)
def oneB2:List (List Value × Value):= [([.string ⟨⟨[115,119,97,112,32,114,52,32,48,32,114,48,32,114,50]⟩⟩],.tuple ⟨[.agg ⟨[.int .i64 18,.int .i64 4,.int .i64 0,.int .i64 2,.int .i64 0,.int .i64 0,.int .u32 0,.int .i64 0]⟩,.string ⟨⟨[]⟩⟩,.bool true]⟩),
 ([.string ⟨⟨[98,101,113,32,114,52,32,114,48,32,103,111,116]⟩⟩],.tuple ⟨[.agg ⟨[.int .i64 8,.int .i64 0,.int .i64 4,.int .i64 0,.int .i64 0,.int .i64 0,.int .u32 0,.int .i64 0]⟩,.string ⟨⟨[103,111,116]⟩⟩,.bool true]⟩),
 ([.string ⟨⟨[97,100,100,107,32,114,52,32,114,52,32,52,50,57,52,57,54,55,50,57,53]⟩⟩],.tuple ⟨[.agg ⟨[.int .i64 3,.int .i64 4,.int .i64 4,.int .i64 0,.int .i64 0,.int .i64 0,.int .u32 4294967295,.int .i64 0]⟩,.string ⟨⟨[]⟩⟩,.bool true]⟩)]
set_option maxRecDepth 1000000 in
theorem RE:cF V1 240 oneB2:=bO cY dL (by kernel_rfl) (by kernel_rfl)
def Z8:List (List Value × Value):= [([.string ⟨⟨[115,116,111,114,101,32,49,32,114,52,32,114,50]⟩⟩],.tuple ⟨[.agg ⟨[.int .i64 17,.int .i64 0,.int .i64 4,.int .i64 2,.int .i64 0,.int .i64 1,.int .u32 0,.int .i64 0]⟩,.string ⟨⟨[]⟩⟩,.bool true]⟩),
 ([.string ⟨⟨[97,119,97,105,116,32,114,53,32,50,32,114,49,32,101,113,32,114,48]⟩⟩],.tuple ⟨[.agg ⟨[.int .i64 21,.int .i64 5,.int .i64 1,.int .i64 0,.int .i64 0,.int .i64 2,.int .u32 0,.int .i64 (-1)]⟩,.string ⟨⟨[]⟩⟩,.bool true]⟩),
 ([.string ⟨⟨[108,111,97,100,32,114,52,32,49,32,114,49]⟩⟩],.tuple ⟨[.agg ⟨[.int .i64 16,.int .i64 4,.int .i64 1,.int .i64 0,.int .i64 0,.int .i64 1,.int .u32 0,.int .i64 0]⟩,.string ⟨⟨[]⟩⟩,.bool true]⟩)]
set_option maxRecDepth 1000000 in
theorem UA:cF V1 240 Z8:=bO cY dL (by kernel_rfl) (by kernel_rfl)
def ZN:List (List Value × Value):= [([.string ⟨⟨[98,110,101,32,114,52,32,114,48,32,104,97,110,100]⟩⟩],.tuple ⟨[.agg ⟨[.int .i64 9,.int .i64 0,.int .i64 4,.int .i64 0,.int .i64 0,.int .i64 0,.int .u32 0,.int .i64 0]⟩,.string ⟨⟨[104,97,110,100]⟩⟩,.bool true]⟩),
 ([.string ⟨⟨[99,97,115,32,114,53,32,48,32,114,48,32,114,50,32,114,48]⟩⟩],.tuple ⟨[.agg ⟨[.int .i64 19,.int .i64 5,.int .i64 0,.int .i64 2,.int .i64 0,.int .i64 0,.int .u32 0,.int .i64 0]⟩,.string ⟨⟨[]⟩⟩,.bool true]⟩),
 ([.string ⟨⟨[98,101,113,32,114,53,32,114,48,32,108,105,110,107]⟩⟩],.tuple ⟨[.agg ⟨[.int .i64 8,.int .i64 0,.int .i64 5,.int .i64 0,.int .i64 0,.int .i64 0,.int .u32 0,.int .i64 0]⟩,.string ⟨⟨[108,105,110,107]⟩⟩,.bool true]⟩)]
set_option maxRecDepth 1000000 in
theorem UR:cF V1 240 ZN:=bO cY dL (by kernel_rfl) (by kernel_rfl)
def oneB5:List (List Value × Value):= [([.string ⟨⟨[97,119,97,105,116,32,114,52,32,49,32,114,49,32,110,101,32,114,48]⟩⟩],.tuple ⟨[.agg ⟨[.int .i64 21,.int .i64 4,.int .i64 1,.int .i64 0,.int .i64 0,.int .i64 1,.int .u32 1,.int .i64 (-1)]⟩,.string ⟨⟨[]⟩⟩,.bool true]⟩),
 ([.string ⟨⟨[115,116,111,114,101,32,50,32,114,52,32,114,48]⟩⟩],.tuple ⟨[.agg ⟨[.int .i64 17,.int .i64 0,.int .i64 4,.int .i64 0,.int .i64 0,.int .i64 2,.int .u32 0,.int .i64 0]⟩,.string ⟨⟨[]⟩⟩,.bool true]⟩),
 ([.string ⟨⟨[97,100,100,107,32,114,50,32,114,49,32,50]⟩⟩],.tuple ⟨[.agg ⟨[.int .i64 3,.int .i64 2,.int .i64 1,.int .i64 0,.int .i64 0,.int .i64 0,.int .u32 2,.int .i64 0]⟩,.string ⟨⟨[]⟩⟩,.bool true]⟩)]
set_option maxRecDepth 1000000 in
theorem QS:cF V1 240 oneB5:=bO cY dL (by kernel_rfl) (by kernel_rfl)
def ZG:List (List Value × Value):= [([.string ⟨⟨[108,111,97,100,32,114,52,32,48,32,114,48]⟩⟩],.tuple ⟨[.agg ⟨[.int .i64 16,.int .i64 4,.int .i64 0,.int .i64 0,.int .i64 0,.int .i64 0,.int .u32 0,.int .i64 0]⟩,.string ⟨⟨[]⟩⟩,.bool true]⟩),
 ([.string ⟨⟨[98,110,101,32,114,52,32,114,48,32,113,117,101,117,101]⟩⟩],.tuple ⟨[.agg ⟨[.int .i64 9,.int .i64 0,.int .i64 4,.int .i64 0,.int .i64 0,.int .i64 0,.int .u32 0,.int .i64 0]⟩,.string ⟨⟨[113,117,101,117,101]⟩⟩,.bool true]⟩),
 ([.string ⟨⟨[99,97,115,32,114,53,32,48,32,114,48,32,114,48,32,114,51]⟩⟩],.tuple ⟨[.agg ⟨[.int .i64 19,.int .i64 5,.int .i64 0,.int .i64 0,.int .i64 3,.int .i64 0,.int .u32 0,.int .i64 0]⟩,.string ⟨⟨[]⟩⟩,.bool true]⟩)]
set_option maxRecDepth 1000000 in
theorem TJ:cF V1 240 ZG:=bO cY dL (by kernel_rfl) (by kernel_rfl)
def Z1:List (List Value × Value):= [([.string ⟨⟨[98,101,113,32,114,53,32,114,48,32,97,103,97,105,110]⟩⟩],.tuple ⟨[.agg ⟨[.int .i64 8,.int .i64 0,.int .i64 5,.int .i64 0,.int .i64 0,.int .i64 0,.int .u32 0,.int .i64 0]⟩,.string ⟨⟨[97,103,97,105,110]⟩⟩,.bool true]⟩),
 ([.string ⟨⟨[115,116,111,114,101,32,50,32,114,49,32,114,48]⟩⟩],.tuple ⟨[.agg ⟨[.int .i64 17,.int .i64 0,.int .i64 1,.int .i64 0,.int .i64 0,.int .i64 2,.int .u32 0,.int .i64 0]⟩,.string ⟨⟨[]⟩⟩,.bool true]⟩),
 ([.string ⟨⟨[115,116,111,114,101,32,51,32,114,49,32,114,51]⟩⟩],.tuple ⟨[.agg ⟨[.int .i64 17,.int .i64 0,.int .i64 1,.int .i64 3,.int .i64 0,.int .i64 3,.int .u32 0,.int .i64 0]⟩,.string ⟨⟨[]⟩⟩,.bool true]⟩)]
set_option maxRecDepth 1000000 in
theorem VS:cF V1 240 Z1:=bO cY dL (by kernel_rfl) (by kernel_rfl)
def oneB:List (List Value × Value):=ZP++(ZR++(oneB2++(Z8++(ZN++(oneB5++(ZG++(Z1)))))))
theorem V8:cF V1 240 oneB:=TB.append (R8.append (RE.append (UA.append (UR.append (QS.append (TJ.append (VS)))))))
end Go.Proofs.YtjopodnlffaogaaGreatDoor.Abs
end
