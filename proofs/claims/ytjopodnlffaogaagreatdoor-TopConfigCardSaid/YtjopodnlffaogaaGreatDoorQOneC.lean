/- A part of the proof of TopConfig: TpOneC. -/
import Derived.Test.YtjopodnlffaogaaGreatDoorQTab
section
namespace Go.Proofs.YtjopodnlffaogaaGreatDoor.Abs
def oneC0 : List (List Value × Value) := [([.string ⟨⟨[99, 97, 115, 32, 114, 53, 32, 48, 32, 114, 48, 32, 114, 52, 32, 114, 50]⟩⟩], .tuple ⟨[.agg ⟨[.int .i64 19, .int .i64 5, .int .i64 0, .int .i64 4, .int .i64 2, .int .i64 0, .int .u32 0, .int .i64 0]⟩, .string ⟨⟨[]⟩⟩, .bool true]⟩),
  ([.string ⟨⟨[98, 101, 113, 32, 114, 52, 32, 114, 51, 32, 102, 105, 114, 115, 116]⟩⟩], .tuple ⟨[.agg ⟨[.int .i64 8, .int .i64 0, .int .i64 4, .int .i64 3, .int .i64 0, .int .i64 0, .int .u32 0, .int .i64 0]⟩, .string ⟨⟨[102, 105, 114, 115, 116]⟩⟩, .bool true]⟩),
  ([.string ⟨⟨[97, 100, 100, 107, 32, 114, 52, 32, 114, 52, 32, 52, 50, 57, 52, 57, 54, 55, 50, 57, 52]⟩⟩], .tuple ⟨[.agg ⟨[.int .i64 3, .int .i64 4, .int .i64 4, .int .i64 0, .int .i64 0, .int .i64 0, .int .u32 4294967294, .int .i64 0]⟩, .string ⟨⟨[]⟩⟩, .bool true]⟩)]
set_option maxRecDepth 1000000 in
theorem oneC0_ok : TabOk V1 240 oneC0 := tab_says vars1 C3_ok (by kernel_rfl) (by kernel_rfl)
def oneC1 : List (List Value × Value) := [([.string ⟨⟨[115, 116, 111, 114, 101, 32, 50, 32, 114, 52, 32, 114, 50]⟩⟩], .tuple ⟨[.agg ⟨[.int .i64 17, .int .i64 0, .int .i64 4, .int .i64 2, .int .i64 0, .int .i64 2, .int .u32 0, .int .i64 0]⟩, .string ⟨⟨[]⟩⟩, .bool true]⟩),
  ([.string ⟨⟨[106, 117, 109, 112, 32, 119, 97, 105, 116]⟩⟩], .tuple ⟨[.agg ⟨[.int .i64 10, .int .i64 0, .int .i64 0, .int .i64 0, .int .i64 0, .int .i64 0, .int .u32 0, .int .i64 0]⟩, .string ⟨⟨[119, 97, 105, 116]⟩⟩, .bool true]⟩),
  ([.string ⟨⟨[115, 116, 111, 114, 101, 32, 49, 32, 114, 48, 32, 114, 50]⟩⟩], .tuple ⟨[.agg ⟨[.int .i64 17, .int .i64 0, .int .i64 0, .int .i64 2, .int .i64 0, .int .i64 1, .int .u32 0, .int .i64 0]⟩, .string ⟨⟨[]⟩⟩, .bool true]⟩)]
set_option maxRecDepth 1000000 in
theorem oneC1_ok : TabOk V1 240 oneC1 := tab_says vars1 C3_ok (by kernel_rfl) (by kernel_rfl)
def oneC2 : List (List Value × Value) := [([.string ⟨⟨[97, 119, 97, 105, 116, 32, 114, 53, 32, 51, 32, 114, 49, 32, 101, 113, 32, 114, 48]⟩⟩], .tuple ⟨[.agg ⟨[.int .i64 21, .int .i64 5, .int .i64 1, .int .i64 0, .int .i64 0, .int .i64 3, .int .u32 0, .int .i64 (-1)]⟩, .string ⟨⟨[]⟩⟩, .bool true]⟩),
  ([.string ⟨⟨[108, 111, 97, 100, 32, 114, 52, 32, 50, 32, 114, 49]⟩⟩], .tuple ⟨[.agg ⟨[.int .i64 16, .int .i64 4, .int .i64 1, .int .i64 0, .int .i64 0, .int .i64 2, .int .u32 0, .int .i64 0]⟩, .string ⟨⟨[]⟩⟩, .bool true]⟩),
  ([.string ⟨⟨[98, 110, 101, 32, 114, 52, 32, 114, 48, 32, 104, 97, 115]⟩⟩], .tuple ⟨[.agg ⟨[.int .i64 9, .int .i64 0, .int .i64 4, .int .i64 0, .int .i64 0, .int .i64 0, .int .u32 0, .int .i64 0]⟩, .string ⟨⟨[104, 97, 115]⟩⟩, .bool true]⟩)]
set_option maxRecDepth 1000000 in
theorem oneC2_ok : TabOk V1 240 oneC2 := tab_says vars1 C3_ok (by kernel_rfl) (by kernel_rfl)
def oneC3 : List (List Value × Value) := [([.string ⟨⟨[115, 116, 111, 114, 101, 32, 49, 32, 114, 48, 32, 114, 48]⟩⟩], .tuple ⟨[.agg ⟨[.int .i64 17, .int .i64 0, .int .i64 0, .int .i64 0, .int .i64 0, .int .i64 1, .int .u32 0, .int .i64 0]⟩, .string ⟨⟨[]⟩⟩, .bool true]⟩),
  ([.string ⟨⟨[99, 97, 115, 32, 114, 53, 32, 48, 32, 114, 48, 32, 114, 50, 32, 114, 51]⟩⟩], .tuple ⟨[.agg ⟨[.int .i64 19, .int .i64 5, .int .i64 0, .int .i64 2, .int .i64 3, .int .i64 0, .int .u32 0, .int .i64 0]⟩, .string ⟨⟨[]⟩⟩, .bool true]⟩),
  ([.string ⟨⟨[98, 110, 101, 32, 114, 53, 32, 114, 48, 32, 111, 117, 116]⟩⟩], .tuple ⟨[.agg ⟨[.int .i64 9, .int .i64 0, .int .i64 5, .int .i64 0, .int .i64 0, .int .i64 0, .int .u32 0, .int .i64 0]⟩, .string ⟨⟨[111, 117, 116]⟩⟩, .bool true]⟩)]
set_option maxRecDepth 1000000 in
theorem oneC3_ok : TabOk V1 240 oneC3 := tab_says vars1 C3_ok (by kernel_rfl) (by kernel_rfl)
def oneC4 : List (List Value × Value) := [([.string ⟨⟨[97, 119, 97, 105, 116, 32, 114, 52, 32, 50, 32, 114, 49, 32, 110, 101, 32, 114, 48]⟩⟩], .tuple ⟨[.agg ⟨[.int .i64 21, .int .i64 4, .int .i64 1, .int .i64 0, .int .i64 0, .int .i64 2, .int .u32 1, .int .i64 (-1)]⟩, .string ⟨⟨[]⟩⟩, .bool true]⟩),
  ([.string ⟨⟨[115, 116, 111, 114, 101, 32, 49, 32, 114, 48, 32, 114, 52]⟩⟩], .tuple ⟨[.agg ⟨[.int .i64 17, .int .i64 0, .int .i64 0, .int .i64 4, .int .i64 0, .int .i64 1, .int .u32 0, .int .i64 0]⟩, .string ⟨⟨[]⟩⟩, .bool true]⟩),
  ([.string ⟨⟨[108, 111, 97, 100, 32, 114, 52, 32, 49, 32, 114, 48]⟩⟩], .tuple ⟨[.agg ⟨[.int .i64 16, .int .i64 4, .int .i64 0, .int .i64 0, .int .i64 0, .int .i64 1, .int .u32 0, .int .i64 0]⟩, .string ⟨⟨[]⟩⟩, .bool true]⟩)]
set_option maxRecDepth 1000000 in
theorem oneC4_ok : TabOk V1 240 oneC4 := tab_says vars1 C3_ok (by kernel_rfl) (by kernel_rfl)
def oneC5 : List (List Value × Value) := [([.string ⟨⟨[99, 97, 115, 32, 114, 53, 32, 48, 32, 114, 48, 32, 114, 51, 32, 114, 48]⟩⟩], .tuple ⟨[.agg ⟨[.int .i64 19, .int .i64 5, .int .i64 0, .int .i64 3, .int .i64 0, .int .i64 0, .int .u32 0, .int .i64 0]⟩, .string ⟨⟨[]⟩⟩, .bool true]⟩),
  ([.string ⟨⟨[98, 101, 113, 32, 114, 53, 32, 114, 48, 32, 98, 101, 104, 105, 110, 100]⟩⟩], .tuple ⟨[.agg ⟨[.int .i64 8, .int .i64 0, .int .i64 5, .int .i64 0, .int .i64 0, .int .i64 0, .int .u32 0, .int .i64 0]⟩, .string ⟨⟨[98, 101, 104, 105, 110, 100]⟩⟩, .bool true]⟩),
  ([.string ⟨⟨[97, 119, 97, 105, 116, 32, 114, 52, 32, 49, 32, 114, 48, 32, 110, 101, 32, 114, 48]⟩⟩], .tuple ⟨[.agg ⟨[.int .i64 21, .int .i64 4, .int .i64 0, .int .i64 0, .int .i64 0, .int .i64 1, .int .u32 1, .int .i64 (-1)]⟩, .string ⟨⟨[]⟩⟩, .bool true]⟩)]
set_option maxRecDepth 1000000 in
theorem oneC5_ok : TabOk V1 240 oneC5 := tab_says vars1 C3_ok (by kernel_rfl) (by kernel_rfl)
def oneC6 : List (List Value × Value) := [([.string ⟨⟨[115, 116, 111, 114, 101, 32, 51, 32, 114, 52, 32, 114, 48]⟩⟩], .tuple ⟨[.agg ⟨[.int .i64 17, .int .i64 0, .int .i64 4, .int .i64 0, .int .i64 0, .int .i64 3, .int .u32 0, .int .i64 0]⟩, .string ⟨⟨[]⟩⟩, .bool true]⟩),
  ([.string ⟨⟨[116, 97, 107, 101, 32, 114, 55]⟩⟩], .tuple ⟨[.agg ⟨[.int .i64 22, .int .i64 7, .int .i64 0, .int .i64 0, .int .i64 0, .int .i64 0, .int .u32 0, .int .i64 0]⟩, .string ⟨⟨[]⟩⟩, .bool true]⟩),
  ([.string ⟨⟨[98, 101, 113, 32, 114, 55, 32, 114, 48, 32, 102, 117, 108, 108]⟩⟩], .tuple ⟨[.agg ⟨[.int .i64 8, .int .i64 0, .int .i64 7, .int .i64 0, .int .i64 0, .int .i64 0, .int .u32 0, .int .i64 0]⟩, .string ⟨⟨[102, 117, 108, 108]⟩⟩, .bool true]⟩)]
set_option maxRecDepth 1000000 in
theorem oneC6_ok : TabOk V1 240 oneC6 := tab_says vars1 C3_ok (by kernel_rfl) (by kernel_rfl)
def oneC7 : List (List Value × Value) := [([.string ⟨⟨[97, 119, 97, 105, 116, 32, 114, 50, 32, 49, 32, 114, 54, 32, 110, 101, 32, 114, 48, 32, 101, 108, 115, 101, 32, 108, 101, 97, 118, 101]⟩⟩], .tuple ⟨[.agg ⟨[.int .i64 21, .int .i64 2, .int .i64 6, .int .i64 0, .int .i64 0, .int .i64 1, .int .u32 1, .int .i64 0]⟩, .string ⟨⟨[108, 101, 97, 118, 101]⟩⟩, .bool true]⟩),
  ([.string ⟨⟨[98, 101, 113, 32, 114, 50, 32, 114, 49, 32, 103, 111, 116]⟩⟩], .tuple ⟨[.agg ⟨[.int .i64 8, .int .i64 0, .int .i64 2, .int .i64 1, .int .i64 0, .int .i64 0, .int .u32 0, .int .i64 0]⟩, .string ⟨⟨[103, 111, 116]⟩⟩, .bool true]⟩),
  ([.string ⟨⟨[102, 114, 101, 101, 32, 114, 54]⟩⟩], .tuple ⟨[.agg ⟨[.int .i64 23, .int .i64 0, .int .i64 6, .int .i64 0, .int .i64 0, .int .i64 0, .int .u32 0, .int .i64 0]⟩, .string ⟨⟨[]⟩⟩, .bool true]⟩)]
set_option maxRecDepth 1000000 in
theorem oneC7_ok : TabOk V1 240 oneC7 := tab_says vars1 C3_ok (by kernel_rfl) (by kernel_rfl)
def oneC : List (List Value × Value) := oneC0 ++ (oneC1 ++ (oneC2 ++ (oneC3 ++ (oneC4 ++ (oneC5 ++ (oneC6 ++ (oneC7)))))))
theorem oneC_ok : TabOk V1 240 oneC := oneC0_ok.append (oneC1_ok.append (oneC2_ok.append (oneC3_ok.append (oneC4_ok.append (oneC5_ok.append (oneC6_ok.append (oneC7_ok)))))))
end Go.Proofs.YtjopodnlffaogaaGreatDoor.Abs
end
