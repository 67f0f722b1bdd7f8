/- A part of the proof of TopConfig: TpOneE. -/
import Derived.Test.YtjopodnlffaogaaGreatDoorQTab
section
namespace Go.Proofs.YtjopodnlffaogaaGreatDoor.Abs
def oneE0 : List (List Value × Value) := [([.string ⟨⟨[97, 110, 100, 107, 32, 114, 50, 32, 114, 49, 32, 48]⟩⟩], .tuple ⟨[.agg ⟨[.int .i64 4, .int .i64 2, .int .i64 1, .int .i64 0, .int .i64 0, .int .i64 0, .int .u32 0, .int .i64 0]⟩, .string ⟨⟨[]⟩⟩, .bool true]⟩),
  ([.string ⟨⟨[97, 119, 97, 105, 116, 32, 114, 52, 32, 49, 32, 114, 50, 32, 101, 113, 32, 114, 51]⟩⟩], .tuple ⟨[.agg ⟨[.int .i64 21, .int .i64 4, .int .i64 2, .int .i64 3, .int .i64 0, .int .i64 1, .int .u32 0, .int .i64 (-1)]⟩, .string ⟨⟨[]⟩⟩, .bool true]⟩),
  ([.string ⟨⟨[115, 116, 111, 114, 101, 32, 49, 32, 114, 50, 32, 114, 48]⟩⟩], .tuple ⟨[.agg ⟨[.int .i64 17, .int .i64 0, .int .i64 2, .int .i64 0, .int .i64 0, .int .i64 1, .int .u32 0, .int .i64 0]⟩, .string ⟨⟨[]⟩⟩, .bool true]⟩)]
set_option maxRecDepth 1000000 in
theorem oneE0_ok : TabOk V1 240 oneE0 := tab_says vars1 C3_ok (by kernel_rfl) (by kernel_rfl)
def oneE1 : List (List Value × Value) := [([.string ⟨⟨[97, 110, 100, 107, 32, 114, 50, 32, 114, 50, 32, 48]⟩⟩], .tuple ⟨[.agg ⟨[.int .i64 4, .int .i64 2, .int .i64 2, .int .i64 0, .int .i64 0, .int .i64 0, .int .u32 0, .int .i64 0]⟩, .string ⟨⟨[]⟩⟩, .bool true]⟩),
  ([.string ⟨⟨[115, 116, 111, 114, 101, 32, 49, 32, 114, 50, 32, 114, 51]⟩⟩], .tuple ⟨[.agg ⟨[.int .i64 17, .int .i64 0, .int .i64 2, .int .i64 3, .int .i64 0, .int .i64 1, .int .u32 0, .int .i64 0]⟩, .string ⟨⟨[]⟩⟩, .bool true]⟩),
  ([.string ⟨⟨[97, 110, 100, 107, 32, 114, 50, 32, 114, 49, 32, 49]⟩⟩], .tuple ⟨[.agg ⟨[.int .i64 4, .int .i64 2, .int .i64 1, .int .i64 0, .int .i64 0, .int .i64 0, .int .u32 1, .int .i64 0]⟩, .string ⟨⟨[]⟩⟩, .bool true]⟩)]
set_option maxRecDepth 1000000 in
theorem oneE1_ok : TabOk V1 240 oneE1 := tab_says vars1 C3_ok (by kernel_rfl) (by kernel_rfl)
def oneE2 : List (List Value × Value) := [([.string ⟨⟨[97, 110, 100, 107, 32, 114, 50, 32, 114, 50, 32, 49]⟩⟩], .tuple ⟨[.agg ⟨[.int .i64 4, .int .i64 2, .int .i64 2, .int .i64 0, .int .i64 0, .int .i64 0, .int .u32 1, .int .i64 0]⟩, .string ⟨⟨[]⟩⟩, .bool true]⟩),
  ([.string ⟨⟨[97, 110, 100, 107, 32, 114, 50, 32, 114, 49, 32, 51]⟩⟩], .tuple ⟨[.agg ⟨[.int .i64 4, .int .i64 2, .int .i64 1, .int .i64 0, .int .i64 0, .int .i64 0, .int .u32 3, .int .i64 0]⟩, .string ⟨⟨[]⟩⟩, .bool true]⟩),
  ([.string ⟨⟨[97, 110, 100, 107, 32, 114, 50, 32, 114, 50, 32, 51]⟩⟩], .tuple ⟨[.agg ⟨[.int .i64 4, .int .i64 2, .int .i64 2, .int .i64 0, .int .i64 0, .int .i64 0, .int .u32 3, .int .i64 0]⟩, .string ⟨⟨[]⟩⟩, .bool true]⟩)]
set_option maxRecDepth 1000000 in
theorem oneE2_ok : TabOk V1 240 oneE2 := tab_says vars1 C3_ok (by kernel_rfl) (by kernel_rfl)
def oneE3 : List (List Value × Value) := [([.string ⟨⟨[97, 110, 100, 107, 32, 114, 50, 32, 114, 49, 32, 55]⟩⟩], .tuple ⟨[.agg ⟨[.int .i64 4, .int .i64 2, .int .i64 1, .int .i64 0, .int .i64 0, .int .i64 0, .int .u32 7, .int .i64 0]⟩, .string ⟨⟨[]⟩⟩, .bool true]⟩),
  ([.string ⟨⟨[97, 110, 100, 107, 32, 114, 50, 32, 114, 50, 32, 55]⟩⟩], .tuple ⟨[.agg ⟨[.int .i64 4, .int .i64 2, .int .i64 2, .int .i64 0, .int .i64 0, .int .i64 0, .int .u32 7, .int .i64 0]⟩, .string ⟨⟨[]⟩⟩, .bool true]⟩),
  ([.string ⟨⟨[97, 110, 100, 107, 32, 114, 50, 32, 114, 49, 32, 49, 53]⟩⟩], .tuple ⟨[.agg ⟨[.int .i64 4, .int .i64 2, .int .i64 1, .int .i64 0, .int .i64 0, .int .i64 0, .int .u32 15, .int .i64 0]⟩, .string ⟨⟨[]⟩⟩, .bool true]⟩)]
set_option maxRecDepth 1000000 in
theorem oneE3_ok : TabOk V1 240 oneE3 := tab_says vars1 C3_ok (by kernel_rfl) (by kernel_rfl)
def oneE4 : List (List Value × Value) := [([.string ⟨⟨[97, 110, 100, 107, 32, 114, 50, 32, 114, 50, 32, 49, 53]⟩⟩], .tuple ⟨[.agg ⟨[.int .i64 4, .int .i64 2, .int .i64 2, .int .i64 0, .int .i64 0, .int .i64 0, .int .u32 15, .int .i64 0]⟩, .string ⟨⟨[]⟩⟩, .bool true]⟩),
  ([.string ⟨⟨[97, 110, 100, 107, 32, 114, 50, 32, 114, 49, 32, 51, 49]⟩⟩], .tuple ⟨[.agg ⟨[.int .i64 4, .int .i64 2, .int .i64 1, .int .i64 0, .int .i64 0, .int .i64 0, .int .u32 31, .int .i64 0]⟩, .string ⟨⟨[]⟩⟩, .bool true]⟩),
  ([.string ⟨⟨[97, 110, 100, 107, 32, 114, 50, 32, 114, 50, 32, 51, 49]⟩⟩], .tuple ⟨[.agg ⟨[.int .i64 4, .int .i64 2, .int .i64 2, .int .i64 0, .int .i64 0, .int .i64 0, .int .u32 31, .int .i64 0]⟩, .string ⟨⟨[]⟩⟩, .bool true]⟩)]
set_option maxRecDepth 1000000 in
theorem oneE4_ok : TabOk V1 240 oneE4 := tab_says vars1 C3_ok (by kernel_rfl) (by kernel_rfl)
def oneE5 : List (List Value × Value) := [([.string ⟨⟨[97, 110, 100, 107, 32, 114, 50, 32, 114, 49, 32, 54, 51]⟩⟩], .tuple ⟨[.agg ⟨[.int .i64 4, .int .i64 2, .int .i64 1, .int .i64 0, .int .i64 0, .int .i64 0, .int .u32 63, .int .i64 0]⟩, .string ⟨⟨[]⟩⟩, .bool true]⟩),
  ([.string ⟨⟨[97, 110, 100, 107, 32, 114, 50, 32, 114, 50, 32, 54, 51]⟩⟩], .tuple ⟨[.agg ⟨[.int .i64 4, .int .i64 2, .int .i64 2, .int .i64 0, .int .i64 0, .int .i64 0, .int .u32 63, .int .i64 0]⟩, .string ⟨⟨[]⟩⟩, .bool true]⟩)]
set_option maxRecDepth 1000000 in
theorem oneE5_ok : TabOk V1 240 oneE5 := tab_says vars1 C3_ok (by kernel_rfl) (by kernel_rfl)
def oneE : List (List Value × Value) := oneE0 ++ (oneE1 ++ (oneE2 ++ (oneE3 ++ (oneE4 ++ (oneE5)))))
theorem oneE_ok : TabOk V1 240 oneE := oneE0_ok.append (oneE1_ok.append (oneE2_ok.append (oneE3_ok.append (oneE4_ok.append (oneE5_ok)))))
end Go.Proofs.YtjopodnlffaogaaGreatDoor.Abs
end
