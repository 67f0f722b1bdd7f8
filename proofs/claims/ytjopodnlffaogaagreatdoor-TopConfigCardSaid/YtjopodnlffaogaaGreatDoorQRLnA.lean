/- A part of the proof of TopConfig: TpRLnA. -/
import Derived.Test.YtjopodnlffaogaaGreatDoorQRTab
section
namespace Go.Proofs.YtjopodnlffaogaaGreatDoor.Abs
def rlnA0 : List (List Value × Value) := [([.string ⟨⟨[102, 97, 100, 100, 32, 114, 49, 32, 48, 32, 114, 48, 32, 49]⟩⟩], .tuple ⟨[.agg ⟨[.int .i64 20, .int .i64 1, .int .i64 0, .int .i64 0, .int .i64 0, .int .i64 0, .int .u32 1, .int .i64 0]⟩, .string ⟨⟨[]⟩⟩, .bool true]⟩),
  ([.string ⟨⟨[109, 97, 114, 107, 32, 49]⟩⟩], .tuple ⟨[.agg ⟨[.int .i64 12, .int .i64 0, .int .i64 0, .int .i64 0, .int .i64 0, .int .i64 0, .int .u32 1, .int .i64 0]⟩, .string ⟨⟨[]⟩⟩, .bool true]⟩),
  ([.string ⟨⟨[97, 119, 97, 105, 116, 32, 114, 50, 32, 49, 32, 114, 48, 32, 101, 113, 32, 114, 49]⟩⟩], .tuple ⟨[.agg ⟨[.int .i64 21, .int .i64 2, .int .i64 0, .int .i64 1, .int .i64 0, .int .i64 1, .int .u32 0, .int .i64 (-1)]⟩, .string ⟨⟨[]⟩⟩, .bool true]⟩)]
set_option maxRecDepth 1000000 in
theorem rlnA0_ok : TabOk [] 118 rlnA0 := tab_says vars0 C7_ok (by kernel_rfl) (by kernel_rfl)
def rlnA1 : List (List Value × Value) := [([.string ⟨⟨[109, 97, 114, 107, 32, 50]⟩⟩], .tuple ⟨[.agg ⟨[.int .i64 12, .int .i64 0, .int .i64 0, .int .i64 0, .int .i64 0, .int .i64 0, .int .u32 2, .int .i64 0]⟩, .string ⟨⟨[]⟩⟩, .bool true]⟩),
  ([.string ⟨⟨[100, 111, 110, 101, 32, 49]⟩⟩], .tuple ⟨[.agg ⟨[.int .i64 13, .int .i64 0, .int .i64 0, .int .i64 0, .int .i64 0, .int .i64 0, .int .u32 1, .int .i64 0]⟩, .string ⟨⟨[]⟩⟩, .bool true]⟩),
  ([.string ⟨⟨[97, 100, 100, 107, 32, 114, 49, 32, 114, 49, 32, 49]⟩⟩], .tuple ⟨[.agg ⟨[.int .i64 3, .int .i64 1, .int .i64 1, .int .i64 0, .int .i64 0, .int .i64 0, .int .u32 1, .int .i64 0]⟩, .string ⟨⟨[]⟩⟩, .bool true]⟩)]
set_option maxRecDepth 1000000 in
theorem rlnA1_ok : TabOk [] 118 rlnA1 := tab_says vars0 C7_ok (by kernel_rfl) (by kernel_rfl)
def rlnA2 : List (List Value × Value) := [([.string ⟨⟨[115, 116, 111, 114, 101, 32, 49, 32, 114, 48, 32, 114, 49]⟩⟩], .tuple ⟨[.agg ⟨[.int .i64 17, .int .i64 0, .int .i64 0, .int .i64 1, .int .i64 0, .int .i64 1, .int .u32 0, .int .i64 0]⟩, .string ⟨⟨[]⟩⟩, .bool true]⟩),
  ([.string ⟨⟨[109, 97, 114, 107, 32, 52]⟩⟩], .tuple ⟨[.agg ⟨[.int .i64 12, .int .i64 0, .int .i64 0, .int .i64 0, .int .i64 0, .int .i64 0, .int .u32 4, .int .i64 0]⟩, .string ⟨⟨[]⟩⟩, .bool true]⟩),
  ([.string ⟨⟨[100, 111, 110, 101, 32, 50]⟩⟩], .tuple ⟨[.agg ⟨[.int .i64 13, .int .i64 0, .int .i64 0, .int .i64 0, .int .i64 0, .int .i64 0, .int .u32 2, .int .i64 0]⟩, .string ⟨⟨[]⟩⟩, .bool true]⟩)]
set_option maxRecDepth 1000000 in
theorem rlnA2_ok : TabOk [] 118 rlnA2 := tab_says vars0 C7_ok (by kernel_rfl) (by kernel_rfl)
def rlnA3 : List (List Value × Value) := [([.string ⟨⟨[115, 101, 108, 102, 32, 114, 49]⟩⟩], .tuple ⟨[.agg ⟨[.int .i64 11, .int .i64 1, .int .i64 0, .int .i64 0, .int .i64 0, .int .i64 0, .int .u32 0, .int .i64 0]⟩, .string ⟨⟨[]⟩⟩, .bool true]⟩),
  ([.string ⟨⟨[108, 111, 97, 100, 32, 114, 50, 32, 49, 32, 114, 49]⟩⟩], .tuple ⟨[.agg ⟨[.int .i64 16, .int .i64 2, .int .i64 1, .int .i64 0, .int .i64 0, .int .i64 1, .int .u32 0, .int .i64 0]⟩, .string ⟨⟨[]⟩⟩, .bool true]⟩),
  ([.string ⟨⟨[115, 104, 108, 32, 114, 51, 32, 114, 49, 32, 49]⟩⟩], .tuple ⟨[.agg ⟨[.int .i64 5, .int .i64 3, .int .i64 1, .int .i64 0, .int .i64 0, .int .i64 0, .int .u32 1, .int .i64 0]⟩, .string ⟨⟨[]⟩⟩, .bool true]⟩)]
set_option maxRecDepth 1000000 in
theorem rlnA3_ok : TabOk [] 118 rlnA3 := tab_says vars0 C7_ok (by kernel_rfl) (by kernel_rfl)
def rlnA4 : List (List Value × Value) := [([.string ⟨⟨[111, 114, 32, 114, 51, 32, 114, 51, 32, 114, 50]⟩⟩], .tuple ⟨[.agg ⟨[.int .i64 7, .int .i64 3, .int .i64 3, .int .i64 2, .int .i64 0, .int .i64 0, .int .u32 0, .int .i64 0]⟩, .string ⟨⟨[]⟩⟩, .bool true]⟩),
  ([.string ⟨⟨[115, 119, 97, 112, 32, 114, 52, 32, 48, 32, 114, 48, 32, 114, 51]⟩⟩], .tuple ⟨[.agg ⟨[.int .i64 18, .int .i64 4, .int .i64 0, .int .i64 3, .int .i64 0, .int .i64 0, .int .u32 0, .int .i64 0]⟩, .string ⟨⟨[]⟩⟩, .bool true]⟩),
  ([.string ⟨⟨[97, 110, 100, 107, 32, 114, 53, 32, 114, 52, 32, 49]⟩⟩], .tuple ⟨[.agg ⟨[.int .i64 4, .int .i64 5, .int .i64 4, .int .i64 0, .int .i64 0, .int .i64 0, .int .u32 1, .int .i64 0]⟩, .string ⟨⟨[]⟩⟩, .bool true]⟩)]
set_option maxRecDepth 1000000 in
theorem rlnA4_ok : TabOk [] 118 rlnA4 := tab_says vars0 C7_ok (by kernel_rfl) (by kernel_rfl)
def rlnA5 : List (List Value × Value) := [([.string ⟨⟨[115, 104, 114, 32, 114, 54, 32, 114, 52, 32, 49]⟩⟩], .tuple ⟨[.agg ⟨[.int .i64 6, .int .i64 6, .int .i64 4, .int .i64 0, .int .i64 0, .int .i64 0, .int .u32 1, .int .i64 0]⟩, .string ⟨⟨[]⟩⟩, .bool true]⟩),
  ([.string ⟨⟨[97, 119, 97, 105, 116, 32, 114, 52, 32, 49, 32, 114, 54, 32, 110, 101, 32, 114, 53]⟩⟩], .tuple ⟨[.agg ⟨[.int .i64 21, .int .i64 4, .int .i64 6, .int .i64 5, .int .i64 0, .int .i64 1, .int .u32 1, .int .i64 (-1)]⟩, .string ⟨⟨[]⟩⟩, .bool true]⟩),
  ([.string ⟨⟨[99, 111, 110, 115, 116, 32, 114, 51, 32, 49]⟩⟩], .tuple ⟨[.agg ⟨[.int .i64 1, .int .i64 3, .int .i64 0, .int .i64 0, .int .i64 0, .int .i64 0, .int .u32 1, .int .i64 0]⟩, .string ⟨⟨[]⟩⟩, .bool true]⟩)]
set_option maxRecDepth 1000000 in
theorem rlnA5_ok : TabOk [] 118 rlnA5 := tab_says vars0 C7_ok (by kernel_rfl) (by kernel_rfl)
def rlnA6 : List (List Value × Value) := [([.string ⟨⟨[98, 101, 113, 32, 114, 50, 32, 114, 48, 32, 116, 117, 114, 110]⟩⟩], .tuple ⟨[.agg ⟨[.int .i64 8, .int .i64 0, .int .i64 2, .int .i64 0, .int .i64 0, .int .i64 0, .int .u32 0, .int .i64 0]⟩, .string ⟨⟨[116, 117, 114, 110]⟩⟩, .bool true]⟩),
  ([.string ⟨⟨[99, 111, 110, 115, 116, 32, 114, 51, 32, 48]⟩⟩], .tuple ⟨[.agg ⟨[.int .i64 1, .int .i64 3, .int .i64 0, .int .i64 0, .int .i64 0, .int .i64 0, .int .u32 0, .int .i64 0]⟩, .string ⟨⟨[]⟩⟩, .bool true]⟩),
  ([.string ⟨⟨[115, 116, 111, 114, 101, 32, 49, 32, 114, 49, 32, 114, 51]⟩⟩], .tuple ⟨[.agg ⟨[.int .i64 17, .int .i64 0, .int .i64 1, .int .i64 3, .int .i64 0, .int .i64 1, .int .u32 0, .int .i64 0]⟩, .string ⟨⟨[]⟩⟩, .bool true]⟩)]
set_option maxRecDepth 1000000 in
theorem rlnA6_ok : TabOk [] 118 rlnA6 := tab_says vars0 C7_ok (by kernel_rfl) (by kernel_rfl)
def rlnA7 : List (List Value × Value) := [([.string ⟨⟨[99, 111, 110, 115, 116, 32, 114, 49, 32, 49]⟩⟩], .tuple ⟨[.agg ⟨[.int .i64 1, .int .i64 1, .int .i64 0, .int .i64 0, .int .i64 0, .int .i64 0, .int .u32 1, .int .i64 0]⟩, .string ⟨⟨[]⟩⟩, .bool true]⟩),
  ([.string ⟨⟨[115, 116, 111, 114, 101, 32, 49, 32, 114, 55, 32, 114, 49]⟩⟩], .tuple ⟨[.agg ⟨[.int .i64 17, .int .i64 0, .int .i64 7, .int .i64 1, .int .i64 0, .int .i64 1, .int .u32 0, .int .i64 0]⟩, .string ⟨⟨[]⟩⟩, .bool true]⟩),
  ([.string ⟨⟨[115, 119, 97, 112, 32, 114, 54, 32, 48, 32, 114, 48, 32, 114, 55]⟩⟩], .tuple ⟨[.agg ⟨[.int .i64 18, .int .i64 6, .int .i64 0, .int .i64 7, .int .i64 0, .int .i64 0, .int .u32 0, .int .i64 0]⟩, .string ⟨⟨[]⟩⟩, .bool true]⟩)]
set_option maxRecDepth 1000000 in
theorem rlnA7_ok : TabOk [] 118 rlnA7 := tab_says vars0 C7_ok (by kernel_rfl) (by kernel_rfl)
def rlnA : List (List Value × Value) := rlnA0 ++ (rlnA1 ++ (rlnA2 ++ (rlnA3 ++ (rlnA4 ++ (rlnA5 ++ (rlnA6 ++ (rlnA7)))))))
theorem rlnA_ok : TabOk [] 118 rlnA := rlnA0_ok.append (rlnA1_ok.append (rlnA2_ok.append (rlnA3_ok.append (rlnA4_ok.append (rlnA5_ok.append (rlnA6_ok.append (rlnA7_ok)))))))
end Go.Proofs.YtjopodnlffaogaaGreatDoor.Abs
end
