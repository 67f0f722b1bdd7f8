/- A part of the proof of TopSame: TpOneE. -/
import Derived.Test.YtjopodnlffaogaaGreatDoorSTab
set_option linter.unusedVariables false
set_option linter.unusedSimpArgs false
set_option maxRecDepth 100000
set_option maxHeartbeats 4000000
section
namespace Go.Proofs.YtjopodnlffaogaaGreatDoor.Abs
def Z6:List (List Value × Value):= [([.string ⟨⟨[97,110,100,107,32,114,50,32,114,49,32,48]⟩⟩],.tuple ⟨[.agg ⟨[.int .i64 4,.int .i64 2,.int .i64 1,.int .i64 0,.int .i64 0,.int .i64 0,.int .u32 0,.int .i64 0]⟩,.string ⟨⟨[]⟩⟩,.bool true]⟩),
 ([.string ⟨⟨[97,119,97,105,116,32,114,52,32,49,32,114,50,32,101,113,32,114,51]⟩⟩],.tuple ⟨[.agg ⟨[.int .i64 21,.int .i64 4,.int .i64 2,.int .i64 3,.int .i64 0,.int .i64 1,.int .u32 0,.int .i64 (-1)]⟩,.string ⟨⟨[]⟩⟩,.bool true]⟩),
 ([.string ⟨⟨[115,116,111,114,101,32,49,32,114,50,32,114,48]⟩⟩],.tuple ⟨[.agg ⟨[.int .i64 17,.int .i64 0,.int .i64 2,.int .i64 0,.int .i64 0,.int .i64 1,.int .u32 0,.int .i64 0]⟩,.string ⟨⟨[]⟩⟩,.bool true]⟩)]
set_option maxRecDepth 1000000 in
theorem RH:cF V1 240 Z6:=bO cY dL (by kernel_rfl) (by kernel_rfl)
def oneE1:List (List Value × Value):= [([.string ⟨⟨[97,110,100,107,32,114,50,32,114,50,32,48]⟩⟩],.tuple ⟨[.agg ⟨[.int .i64 4,.int .i64 2,.int .i64 2,.int .i64 0,.int .i64 0,.int .i64 0,.int .u32 0,.int .i64 0]⟩,.string ⟨⟨[]⟩⟩,.bool true]⟩),
 ([.string ⟨⟨[115,116,111,114,101,32,49,32,114,50,32,114,51]⟩⟩],.tuple ⟨[.agg ⟨[.int .i64 17,.int .i64 0,.int .i64 2,.int .i64 3,.int .i64 0,.int .i64 1,.int .u32 0,.int .i64 0]⟩,.string ⟨⟨[]⟩⟩,.bool true]⟩),
 ([.string ⟨⟨[97,110,100,107,32,114,50,32,114,49,32,49]⟩⟩],.tuple ⟨[.agg ⟨[.int .i64 4,.int .i64 2,.int .i64 1,.int .i64 0,.int .i64 0,.int .i64 0,.int .u32 1,.int .i64 0]⟩,.string ⟨⟨[]⟩⟩,.bool true]⟩)]
set_option maxRecDepth 1000000 in
theorem Q4:cF V1 240 oneE1:=bO cY dL (by kernel_rfl) (by kernel_rfl)
def ZX:List (List Value × Value):= [([.string ⟨⟨[97,110,100,107,32,114,50,32,114,50,32,49]⟩⟩],.tuple ⟨[.agg ⟨[.int .i64 4,.int .i64 2,.int .i64 2,.int .i64 0,.int .i64 0,.int .i64 0,.int .u32 1,.int .i64 0]⟩,.string ⟨⟨[]⟩⟩,.bool true]⟩),
 ([.string ⟨⟨[97,110,100,107,32,114,50,32,114,49,32,51]⟩⟩],.tuple ⟨[.agg ⟨[.int .i64 4,.int .i64 2,.int .i64 1,.int .i64 0,.int .i64 0,.int .i64 0,.int .u32 3,.int .i64 0]⟩,.string ⟨⟨[]⟩⟩,.bool true]⟩),
 ([.string ⟨⟨[97,110,100,107,32,114,50,32,114,50,32,51]⟩⟩],.tuple ⟨[.agg ⟨[.int .i64 4,.int .i64 2,.int .i64 2,.int .i64 0,.int .i64 0,.int .i64 0,.int .u32 3,.int .i64 0]⟩,.string ⟨⟨[]⟩⟩,.bool true]⟩)]
set_option maxRecDepth 1000000 in
theorem QB:cF V1 240 ZX:=bO cY dL (by kernel_rfl) (by kernel_rfl)
def ZW:List (List Value × Value):= [([.string ⟨⟨[97,110,100,107,32,114,50,32,114,49,32,55]⟩⟩],.tuple ⟨[.agg ⟨[.int .i64 4,.int .i64 2,.int .i64 1,.int .i64 0,.int .i64 0,.int .i64 0,.int .u32 7,.int .i64 0]⟩,.string ⟨⟨[]⟩⟩,.bool true]⟩),
 ([.string ⟨⟨[97,110,100,107,32,114,50,32,114,50,32,55]⟩⟩],.tuple ⟨[.agg ⟨[.int .i64 4,.int .i64 2,.int .i64 2,.int .i64 0,.int .i64 0,.int .i64 0,.int .u32 7,.int .i64 0]⟩,.string ⟨⟨[]⟩⟩,.bool true]⟩),
 ([.string ⟨⟨[97,110,100,107,32,114,50,32,114,49,32,49,53]⟩⟩],.tuple ⟨[.agg ⟨[.int .i64 4,.int .i64 2,.int .i64 1,.int .i64 0,.int .i64 0,.int .i64 0,.int .u32 15,.int .i64 0]⟩,.string ⟨⟨[]⟩⟩,.bool true]⟩)]
set_option maxRecDepth 1000000 in
theorem P8:cF V1 240 ZW:=bO cY dL (by kernel_rfl) (by kernel_rfl)
def Z3:List (List Value × Value):= [([.string ⟨⟨[97,110,100,107,32,114,50,32,114,50,32,49,53]⟩⟩],.tuple ⟨[.agg ⟨[.int .i64 4,.int .i64 2,.int .i64 2,.int .i64 0,.int .i64 0,.int .i64 0,.int .u32 15,.int .i64 0]⟩,.string ⟨⟨[]⟩⟩,.bool true]⟩),
 ([.string ⟨⟨[97,110,100,107,32,114,50,32,114,49,32,51,49]⟩⟩],.tuple ⟨[.agg ⟨[.int .i64 4,.int .i64 2,.int .i64 1,.int .i64 0,.int .i64 0,.int .i64 0,.int .u32 31,.int .i64 0]⟩,.string ⟨⟨[]⟩⟩,.bool true]⟩),
 ([.string ⟨⟨[97,110,100,107,32,114,50,32,114,50,32,51,49]⟩⟩],.tuple ⟨[.agg ⟨[.int .i64 4,.int .i64 2,.int .i64 2,.int .i64 0,.int .i64 0,.int .i64 0,.int .u32 31,.int .i64 0]⟩,.string ⟨⟨[]⟩⟩,.bool true]⟩)]
set_option maxRecDepth 1000000 in
theorem VF:cF V1 240 Z3:=bO cY dL (by kernel_rfl) (by kernel_rfl)
def Z5:List (List Value × Value):= [([.string ⟨⟨[97,110,100,107,32,114,50,32,114,49,32,54,51]⟩⟩],.tuple ⟨[.agg ⟨[.int .i64 4,.int .i64 2,.int .i64 1,.int .i64 0,.int .i64 0,.int .i64 0,.int .u32 63,.int .i64 0]⟩,.string ⟨⟨[]⟩⟩,.bool true]⟩),
 ([.string ⟨⟨[97,110,100,107,32,114,50,32,114,50,32,54,51]⟩⟩],.tuple ⟨[.agg ⟨[.int .i64 4,.int .i64 2,.int .i64 2,.int .i64 0,.int .i64 0,.int .i64 0,.int .u32 63,.int .i64 0]⟩,.string ⟨⟨[]⟩⟩,.bool true]⟩)]
set_option maxRecDepth 1000000 in
theorem T8:cF V1 240 Z5:=bO cY dL (by kernel_rfl) (by kernel_rfl)
def oneE:List (List Value × Value):=Z6++(oneE1++(ZX++(ZW++(Z3++(Z5)))))
theorem V9:cF V1 240 oneE:=RH.append (Q4.append (QB.append (P8.append (VF.append (T8)))))
end Go.Proofs.YtjopodnlffaogaaGreatDoor.Abs
end
