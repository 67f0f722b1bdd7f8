/- A part of the proof of TopConfig: TpOneB. -/
import Derived.Test.YtjopodnlffaogaaGreatDoorQTab
section
namespace Go.Proofs.YtjopodnlffaogaaGreatDoor.Abs
def oneB0 : List (List Value × Value) := [([.string ⟨⟨[97, 119, 97, 105, 116, 32, 114, 49, 32, 49, 32, 114, 54, 32, 101, 113, 32, 114, 48]⟩⟩], .tuple ⟨[.agg ⟨[.int .i64 21, .int .i64 1, .int .i64 6, .int .i64 0, .int .i64 0, .int .i64 1, .int .u32 0, .int .i64 (-1)]⟩, .string ⟨⟨[]⟩⟩, .bool true]⟩),
  ([.string ⟨⟨[115, 116, 111, 114, 101, 32, 49, 32, 114, 55, 32, 114, 48]⟩⟩], .tuple ⟨[.agg ⟨[.int .i64 17, .int .i64 0, .int .i64 7, .int .i64 0, .int .i64 0, .int .i64 1, .int .u32 0, .int .i64 0]⟩, .string ⟨⟨[]⟩⟩, .bool true]⟩),
  ([.string ⟨⟨[109, 111, 118, 101, 32, 114, 55, 32, 114, 54]⟩⟩], .tuple ⟨[.agg ⟨[.int .i64 2, .int .i64 7, .int .i64 6, .int .i64 0, .int .i64 0, .int .i64 0, .int .u32 0, .int .i64 0]⟩, .string ⟨⟨[]⟩⟩, .bool true]⟩)]
set_option maxRecDepth 1000000 in
theorem oneB0_ok : TabOk V1 240 oneB0 := tab_says vars1 C3_ok (by kernel_rfl) (by kernel_rfl)
def oneB1 : List (List Value × Value) := [([.string ⟨⟨[97, 100, 100, 107, 32, 114, 50, 32, 114, 49, 32, 49]⟩⟩], .tuple ⟨[.agg ⟨[.int .i64 3, .int .i64 2, .int .i64 1, .int .i64 0, .int .i64 0, .int .i64 0, .int .u32 1, .int .i64 0]⟩, .string ⟨⟨[]⟩⟩, .bool true]⟩),
  ([.string ⟨⟨[115, 116, 111, 114, 101, 32, 49, 32, 114, 49, 32, 114, 48]⟩⟩], .tuple ⟨[.agg ⟨[.int .i64 17, .int .i64 0, .int .i64 1, .int .i64 0, .int .i64 0, .int .i64 1, .int .u32 0, .int .i64 0]⟩, .string ⟨⟨[]⟩⟩, .bool true]⟩),
  ([.string ⟨⟨[115, 116, 111, 114, 101, 32, 50, 32, 114, 49, 32, 114, 51]⟩⟩], .tuple ⟨[.agg ⟨[.int .i64 17, .int .i64 0, .int .i64 1, .int .i64 3, .int .i64 0, .int .i64 2, .int .u32 0, .int .i64 0]⟩, .string ⟨⟨[]⟩⟩, .bool true]⟩)]
set_option maxRecDepth 1000000 in
theorem oneB1_ok : TabOk V1 240 oneB1 := tab_says vars1 C3_ok (by kernel_rfl) (by kernel_rfl)
def oneB2 : List (List Value × Value) := [([.string ⟨⟨[115, 119, 97, 112, 32, 114, 52, 32, 48, 32, 114, 48, 32, 114, 50]⟩⟩], .tuple ⟨[.agg ⟨[.int .i64 18, .int .i64 4, .int .i64 0, .int .i64 2, .int .i64 0, .int .i64 0, .int .u32 0, .int .i64 0]⟩, .string ⟨⟨[]⟩⟩, .bool true]⟩),
  ([.string ⟨⟨[98, 101, 113, 32, 114, 52, 32, 114, 48, 32, 103, 111, 116]⟩⟩], .tuple ⟨[.agg ⟨[.int .i64 8, .int .i64 0, .int .i64 4, .int .i64 0, .int .i64 0, .int .i64 0, .int .u32 0, .int .i64 0]⟩, .string ⟨⟨[103, 111, 116]⟩⟩, .bool true]⟩),
  ([.string ⟨⟨[97, 100, 100, 107, 32, 114, 52, 32, 114, 52, 32, 52, 50, 57, 52, 57, 54, 55, 50, 57, 53]⟩⟩], .tuple ⟨[.agg ⟨[.int .i64 3, .int .i64 4, .int .i64 4, .int .i64 0, .int .i64 0, .int .i64 0, .int .u32 4294967295, .int .i64 0]⟩, .string ⟨⟨[]⟩⟩, .bool true]⟩)]
set_option maxRecDepth 1000000 in
theorem oneB2_ok : TabOk V1 240 oneB2 := tab_says vars1 C3_ok (by kernel_rfl) (by kernel_rfl)
def oneB3 : List (List Value × Value) := [([.string ⟨⟨[115, 116, 111, 114, 101, 32, 49, 32, 114, 52, 32, 114, 50]⟩⟩], .tuple ⟨[.agg ⟨[.int .i64 17, .int .i64 0, .int .i64 4, .int .i64 2, .int .i64 0, .int .i64 1, .int .u32 0, .int .i64 0]⟩, .string ⟨⟨[]⟩⟩, .bool true]⟩),
  ([.string ⟨⟨[97, 119, 97, 105, 116, 32, 114, 53, 32, 50, 32, 114, 49, 32, 101, 113, 32, 114, 48]⟩⟩], .tuple ⟨[.agg ⟨[.int .i64 21, .int .i64 5, .int .i64 1, .int .i64 0, .int .i64 0, .int .i64 2, .int .u32 0, .int .i64 (-1)]⟩, .string ⟨⟨[]⟩⟩, .bool true]⟩),
  ([.string ⟨⟨[108, 111, 97, 100, 32, 114, 52, 32, 49, 32, 114, 49]⟩⟩], .tuple ⟨[.agg ⟨[.int .i64 16, .int .i64 4, .int .i64 1, .int .i64 0, .int .i64 0, .int .i64 1, .int .u32 0, .int .i64 0]⟩, .string ⟨⟨[]⟩⟩, .bool true]⟩)]
set_option maxRecDepth 1000000 in
theorem oneB3_ok : TabOk V1 240 oneB3 := tab_says vars1 C3_ok (by kernel_rfl) (by kernel_rfl)
def oneB4 : List (List Value × Value) := [([.string ⟨⟨[98, 110, 101, 32, 114, 52, 32, 114, 48, 32, 104, 97, 110, 100]⟩⟩], .tuple ⟨[.agg ⟨[.int .i64 9, .int .i64 0, .int .i64 4, .int .i64 0, .int .i64 0, .int .i64 0, .int .u32 0, .int .i64 0]⟩, .string ⟨⟨[104, 97, 110, 100]⟩⟩, .bool true]⟩),
  ([.string ⟨⟨[99, 97, 115, 32, 114, 53, 32, 48, 32, 114, 48, 32, 114, 50, 32, 114, 48]⟩⟩], .tuple ⟨[.agg ⟨[.int .i64 19, .int .i64 5, .int .i64 0, .int .i64 2, .int .i64 0, .int .i64 0, .int .u32 0, .int .i64 0]⟩, .string ⟨⟨[]⟩⟩, .bool true]⟩),
  ([.string ⟨⟨[98, 101, 113, 32, 114, 53, 32, 114, 48, 32, 108, 105, 110, 107]⟩⟩], .tuple ⟨[.agg ⟨[.int .i64 8, .int .i64 0, .int .i64 5, .int .i64 0, .int .i64 0, .int .i64 0, .int .u32 0, .int .i64 0]⟩, .string ⟨⟨[108, 105, 110, 107]⟩⟩, .bool true]⟩)]
set_option maxRecDepth 1000000 in
theorem oneB4_ok : TabOk V1 240 oneB4 := tab_says vars1 C3_ok (by kernel_rfl) (by kernel_rfl)
def oneB5 : List (List Value × Value) := [([.string ⟨⟨[97, 119, 97, 105, 116, 32, 114, 52, 32, 49, 32, 114, 49, 32, 110, 101, 32, 114, 48]⟩⟩], .tuple ⟨[.agg ⟨[.int .i64 21, .int .i64 4, .int .i64 1, .int .i64 0, .int .i64 0, .int .i64 1, .int .u32 1, .int .i64 (-1)]⟩, .string ⟨⟨[]⟩⟩, .bool true]⟩),
  ([.string ⟨⟨[115, 116, 111, 114, 101, 32, 50, 32, 114, 52, 32, 114, 48]⟩⟩], .tuple ⟨[.agg ⟨[.int .i64 17, .int .i64 0, .int .i64 4, .int .i64 0, .int .i64 0, .int .i64 2, .int .u32 0, .int .i64 0]⟩, .string ⟨⟨[]⟩⟩, .bool true]⟩),
  ([.string ⟨⟨[97, 100, 100, 107, 32, 114, 50, 32, 114, 49, 32, 50]⟩⟩], .tuple ⟨[.agg ⟨[.int .i64 3, .int .i64 2, .int .i64 1, .int .i64 0, .int .i64 0, .int .i64 0, .int .u32 2, .int .i64 0]⟩, .string ⟨⟨[]⟩⟩, .bool true]⟩)]
set_option maxRecDepth 1000000 in
theorem oneB5_ok : TabOk V1 240 oneB5 := tab_says vars1 C3_ok (by kernel_rfl) (by kernel_rfl)
def oneB6 : List (List Value × Value) := [([.string ⟨⟨[108, 111, 97, 100, 32, 114, 52, 32, 48, 32, 114, 48]⟩⟩], .tuple ⟨[.agg ⟨[.int .i64 16, .int .i64 4, .int .i64 0, .int .i64 0, .int .i64 0, .int .i64 0, .int .u32 0, .int .i64 0]⟩, .string ⟨⟨[]⟩⟩, .bool true]⟩),
  ([.string ⟨⟨[98, 110, 101, 32, 114, 52, 32, 114, 48, 32, 113, 117, 101, 117, 101]⟩⟩], .tuple ⟨[.agg ⟨[.int .i64 9, .int .i64 0, .int .i64 4, .int .i64 0, .int .i64 0, .int .i64 0, .int .u32 0, .int .i64 0]⟩, .string ⟨⟨[113, 117, 101, 117, 101]⟩⟩, .bool true]⟩),
  ([.string ⟨⟨[99, 97, 115, 32, 114, 53, 32, 48, 32, 114, 48, 32, 114, 48, 32, 114, 51]⟩⟩], .tuple ⟨[.agg ⟨[.int .i64 19, .int .i64 5, .int .i64 0, .int .i64 0, .int .i64 3, .int .i64 0, .int .u32 0, .int .i64 0]⟩, .string ⟨⟨[]⟩⟩, .bool true]⟩)]
set_option maxRecDepth 1000000 in
theorem oneB6_ok : TabOk V1 240 oneB6 := tab_says vars1 C3_ok (by kernel_rfl) (by kernel_rfl)
def oneB7 : List (List Value × Value) := [([.string ⟨⟨[98, 101, 113, 32, 114, 53, 32, 114, 48, 32, 97, 103, 97, 105, 110]⟩⟩], .tuple ⟨[.agg ⟨[.int .i64 8, .int .i64 0, .int .i64 5, .int .i64 0, .int .i64 0, .int .i64 0, .int .u32 0, .int .i64 0]⟩, .string ⟨⟨[97, 103, 97, 105, 110]⟩⟩, .bool true]⟩),
  ([.string ⟨⟨[115, 116, 111, 114, 101, 32, 50, 32, 114, 49, 32, 114, 48]⟩⟩], .tuple ⟨[.agg ⟨[.int .i64 17, .int .i64 0, .int .i64 1, .int .i64 0, .int .i64 0, .int .i64 2, .int .u32 0, .int .i64 0]⟩, .string ⟨⟨[]⟩⟩, .bool true]⟩),
  ([.string ⟨⟨[115, 116, 111, 114, 101, 32, 51, 32, 114, 49, 32, 114, 51]⟩⟩], .tuple ⟨[.agg ⟨[.int .i64 17, .int .i64 0, .int .i64 1, .int .i64 3, .int .i64 0, .int .i64 3, .int .u32 0, .int .i64 0]⟩, .string ⟨⟨[]⟩⟩, .bool true]⟩)]
set_option maxRecDepth 1000000 in
theorem oneB7_ok : TabOk V1 240 oneB7 := tab_says vars1 C3_ok (by kernel_rfl) (by kernel_rfl)
def oneB : List (List Value × Value) := oneB0 ++ (oneB1 ++ (oneB2 ++ (oneB3 ++ (oneB4 ++ (oneB5 ++ (oneB6 ++ (oneB7)))))))
theorem oneB_ok : TabOk V1 240 oneB := oneB0_ok.append (oneB1_ok.append (oneB2_ok.append (oneB3_ok.append (oneB4_ok.append (oneB5_ok.append (oneB6_ok.append (oneB7_ok)))))))
end Go.Proofs.YtjopodnlffaogaaGreatDoor.Abs
end
