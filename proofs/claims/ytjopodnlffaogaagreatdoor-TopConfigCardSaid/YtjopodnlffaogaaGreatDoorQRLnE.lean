/- A part of the proof of TopConfig: TpRLnE. -/
import Derived.Test.YtjopodnlffaogaaGreatDoorQRTab
section
namespace Go.Proofs.YtjopodnlffaogaaGreatDoor.Abs
def rlnE0 : List (List Value × Value) := [([.string ⟨⟨[97, 110, 100, 107, 32, 114, 50, 32, 114, 49, 32, 48]⟩⟩], .tuple ⟨[.agg ⟨[.int .i64 4, .int .i64 2, .int .i64 1, .int .i64 0, .int .i64 0, .int .i64 0, .int .u32 0, .int .i64 0]⟩, .string ⟨⟨[]⟩⟩, .bool true]⟩),
  ([.string ⟨⟨[97, 119, 97, 105, 116, 32, 114, 52, 32, 49, 32, 114, 50, 32, 101, 113, 32, 114, 51]⟩⟩], .tuple ⟨[.agg ⟨[.int .i64 21, .int .i64 4, .int .i64 2, .int .i64 3, .int .i64 0, .int .i64 1, .int .u32 0, .int .i64 (-1)]⟩, .string ⟨⟨[]⟩⟩, .bool true]⟩),
  ([.string ⟨⟨[115, 116, 111, 114, 101, 32, 49, 32, 114, 50, 32, 114, 48]⟩⟩], .tuple ⟨[.agg ⟨[.int .i64 17, .int .i64 0, .int .i64 2, .int .i64 0, .int .i64 0, .int .i64 1, .int .u32 0, .int .i64 0]⟩, .string ⟨⟨[]⟩⟩, .bool true]⟩)]
set_option maxRecDepth 1000000 in
theorem rlnE0_ok : TabOk [] 118 rlnE0 := tab_says vars0 C7_ok (by kernel_rfl) (by kernel_rfl)
def rlnE1 : List (List Value × Value) := [([.string ⟨⟨[97, 110, 100, 107, 32, 114, 50, 32, 114, 50, 32, 48]⟩⟩], .tuple ⟨[.agg ⟨[.int .i64 4, .int .i64 2, .int .i64 2, .int .i64 0, .int .i64 0, .int .i64 0, .int .u32 0, .int .i64 0]⟩, .string ⟨⟨[]⟩⟩, .bool true]⟩),
  ([.string ⟨⟨[115, 116, 111, 114, 101, 32, 49, 32, 114, 50, 32, 114, 51]⟩⟩], .tuple ⟨[.agg ⟨[.int .i64 17, .int .i64 0, .int .i64 2, .int .i64 3, .int .i64 0, .int .i64 1, .int .u32 0, .int .i64 0]⟩, .string ⟨⟨[]⟩⟩, .bool true]⟩),
  ([.string ⟨⟨[97, 110, 100, 107, 32, 114, 50, 32, 114, 49, 32, 49]⟩⟩], .tuple ⟨[.agg ⟨[.int .i64 4, .int .i64 2, .int .i64 1, .int .i64 0, .int .i64 0, .int .i64 0, .int .u32 1, .int .i64 0]⟩, .string ⟨⟨[]⟩⟩, .bool true]⟩)]
set_option maxRecDepth 1000000 in
theorem rlnE1_ok : TabOk [] 118 rlnE1 := tab_says vars0 C7_ok (by kernel_rfl) (by kernel_rfl)
def rlnE2 : List (List Value × Value) := [([.string ⟨⟨[97, 110, 100, 107, 32, 114, 50, 32, 114, 50, 32, 49]⟩⟩], .tuple ⟨[.agg ⟨[.int .i64 4, .int .i64 2, .int .i64 2, .int .i64 0, .int .i64 0, .int .i64 0, .int .u32 1, .int .i64 0]⟩, .string ⟨⟨[]⟩⟩, .bool true]⟩),
  ([.string ⟨⟨[97, 110, 100, 107, 32, 114, 50, 32, 114, 49, 32, 51]⟩⟩], .tuple ⟨[.agg ⟨[.int .i64 4, .int .i64 2, .int .i64 1, .int .i64 0, .int .i64 0, .int .i64 0, .int .u32 3, .int .i64 0]⟩, .string ⟨⟨[]⟩⟩, .bool true]⟩),
  ([.string ⟨⟨[97, 110, 100, 107, 32, 114, 50, 32, 114, 50, 32, 51]⟩⟩], .tuple ⟨[.agg ⟨[.int .i64 4, .int .i64 2, .int .i64 2, .int .i64 0, .int .i64 0, .int .i64 0, .int .u32 3, .int .i64 0]⟩, .string ⟨⟨[]⟩⟩, .bool true]⟩)]
set_option maxRecDepth 1000000 in
theorem rlnE2_ok : TabOk [] 118 rlnE2 := tab_says vars0 C7_ok (by kernel_rfl) (by kernel_rfl)
def rlnE3 : List (List Value × Value) := [([.string ⟨⟨[97, 110, 100, 107, 32, 114, 50, 32, 114, 49, 32, 55]⟩⟩], .tuple ⟨[.agg ⟨[.int .i64 4, .int .i64 2, .int .i64 1, .int .i64 0, .int .i64 0, .int .i64 0, .int .u32 7, .int .i64 0]⟩, .string ⟨⟨[]⟩⟩, .bool true]⟩),
  ([.string ⟨⟨[97, 110, 100, 107, 32, 114, 50, 32, 114, 50, 32, 55]⟩⟩], .tuple ⟨[.agg ⟨[.int .i64 4, .int .i64 2, .int .i64 2, .int .i64 0, .int .i64 0, .int .i64 0, .int .u32 7, .int .i64 0]⟩, .string ⟨⟨[]⟩⟩, .bool true]⟩),
  ([.string ⟨⟨[97, 110, 100, 107, 32, 114, 50, 32, 114, 49, 32, 49, 53]⟩⟩], .tuple ⟨[.agg ⟨[.int .i64 4, .int .i64 2, .int .i64 1, .int .i64 0, .int .i64 0, .int .i64 0, .int .u32 15, .int .i64 0]⟩, .string ⟨⟨[]⟩⟩, .bool true]⟩)]
set_option maxRecDepth 1000000 in
theorem rlnE3_ok : TabOk [] 118 rlnE3 := tab_says vars0 C7_ok (by kernel_rfl) (by kernel_rfl)
def rlnE4 : List (List Value × Value) := [([.string ⟨⟨[97, 110, 100, 107, 32, 114, 50, 32, 114, 50, 32, 49, 53]⟩⟩], .tuple ⟨[.agg ⟨[.int .i64 4, .int .i64 2, .int .i64 2, .int .i64 0, .int .i64 0, .int .i64 0, .int .u32 15, .int .i64 0]⟩, .string ⟨⟨[]⟩⟩, .bool true]⟩),
  ([.string ⟨⟨[97, 110, 100, 107, 32, 114, 50, 32, 114, 49, 32, 51, 49]⟩⟩], .tuple ⟨[.agg ⟨[.int .i64 4, .int .i64 2, .int .i64 1, .int .i64 0, .int .i64 0, .int .i64 0, .int .u32 31, .int .i64 0]⟩, .string ⟨⟨[]⟩⟩, .bool true]⟩),
  ([.string ⟨⟨[97, 110, 100, 107, 32, 114, 50, 32, 114, 50, 32, 51, 49]⟩⟩], .tuple ⟨[.agg ⟨[.int .i64 4, .int .i64 2, .int .i64 2, .int .i64 0, .int .i64 0, .int .i64 0, .int .u32 31, .int .i64 0]⟩, .string ⟨⟨[]⟩⟩, .bool true]⟩)]
set_option maxRecDepth 1000000 in
theorem rlnE4_ok : TabOk [] 118 rlnE4 := tab_says vars0 C7_ok (by kernel_rfl) (by kernel_rfl)
def rlnE5 : List (List Value × Value) := [([.string ⟨⟨[97, 110, 100, 107, 32, 114, 50, 32, 114, 49, 32, 54, 51]⟩⟩], .tuple ⟨[.agg ⟨[.int .i64 4, .int .i64 2, .int .i64 1, .int .i64 0, .int .i64 0, .int .i64 0, .int .u32 63, .int .i64 0]⟩, .string ⟨⟨[]⟩⟩, .bool true]⟩),
  ([.string ⟨⟨[97, 110, 100, 107, 32, 114, 50, 32, 114, 50, 32, 54, 51]⟩⟩], .tuple ⟨[.agg ⟨[.int .i64 4, .int .i64 2, .int .i64 2, .int .i64 0, .int .i64 0, .int .i64 0, .int .u32 63, .int .i64 0]⟩, .string ⟨⟨[]⟩⟩, .bool true]⟩)]
set_option maxRecDepth 1000000 in
theorem rlnE5_ok : TabOk [] 118 rlnE5 := tab_says vars0 C7_ok (by kernel_rfl) (by kernel_rfl)
def rlnE : List (List Value × Value) := rlnE0 ++ (rlnE1 ++ (rlnE2 ++ (rlnE3 ++ (rlnE4 ++ (rlnE5)))))
theorem rlnE_ok : TabOk [] 118 rlnE := rlnE0_ok.append (rlnE1_ok.append (rlnE2_ok.append (rlnE3_ok.append (rlnE4_ok.append (rlnE5_ok)))))
end Go.Proofs.YtjopodnlffaogaaGreatDoor.Abs
end
