/- A part of the proof of TopConfig: TpRLnC. -/
import Derived.Test.YtjopodnlffaogaaGreatDoorQRTab
section
namespace Go.Proofs.YtjopodnlffaogaaGreatDoor.Abs
def rlnC0 : List (List Value × Value) := [([.string ⟨⟨[99, 97, 115, 32, 114, 53, 32, 48, 32, 114, 48, 32, 114, 52, 32, 114, 50]⟩⟩], .tuple ⟨[.agg ⟨[.int .i64 19, .int .i64 5, .int .i64 0, .int .i64 4, .int .i64 2, .int .i64 0, .int .u32 0, .int .i64 0]⟩, .string ⟨⟨[]⟩⟩, .bool true]⟩),
  ([.string ⟨⟨[98, 101, 113, 32, 114, 52, 32, 114, 51, 32, 102, 105, 114, 115, 116]⟩⟩], .tuple ⟨[.agg ⟨[.int .i64 8, .int .i64 0, .int .i64 4, .int .i64 3, .int .i64 0, .int .i64 0, .int .u32 0, .int .i64 0]⟩, .string ⟨⟨[102, 105, 114, 115, 116]⟩⟩, .bool true]⟩),
  ([.string ⟨⟨[97, 100, 100, 107, 32, 114, 52, 32, 114, 52, 32, 52, 50, 57, 52, 57, 54, 55, 50, 57, 52]⟩⟩], .tuple ⟨[.agg ⟨[.int .i64 3, .int .i64 4, .int .i64 4, .int .i64 0, .int .i64 0, .int .i64 0, .int .u32 4294967294, .int .i64 0]⟩, .string ⟨⟨[]⟩⟩, .bool true]⟩)]
set_option maxRecDepth 1000000 in
theorem rlnC0_ok : TabOk [] 118 rlnC0 := tab_says vars0 C7_ok (by kernel_rfl) (by kernel_rfl)
def rlnC1 : List (List Value × Value) := [([.string ⟨⟨[115, 116, 111, 114, 101, 32, 50, 32, 114, 52, 32, 114, 50]⟩⟩], .tuple ⟨[.agg ⟨[.int .i64 17, .int .i64 0, .int .i64 4, .int .i64 2, .int .i64 0, .int .i64 2, .int .u32 0, .int .i64 0]⟩, .string ⟨⟨[]⟩⟩, .bool true]⟩),
  ([.string ⟨⟨[106, 117, 109, 112, 32, 119, 97, 105, 116]⟩⟩], .tuple ⟨[.agg ⟨[.int .i64 10, .int .i64 0, .int .i64 0, .int .i64 0, .int .i64 0, .int .i64 0, .int .u32 0, .int .i64 0]⟩, .string ⟨⟨[119, 97, 105, 116]⟩⟩, .bool true]⟩),
  ([.string ⟨⟨[115, 116, 111, 114, 101, 32, 49, 32, 114, 48, 32, 114, 50]⟩⟩], .tuple ⟨[.agg ⟨[.int .i64 17, .int .i64 0, .int .i64 0, .int .i64 2, .int .i64 0, .int .i64 1, .int .u32 0, .int .i64 0]⟩, .string ⟨⟨[]⟩⟩, .bool true]⟩)]
set_option maxRecDepth 1000000 in
theorem rlnC1_ok : TabOk [] 118 rlnC1 := tab_says vars0 C7_ok (by kernel_rfl) (by kernel_rfl)
def rlnC2 : List (List Value × Value) := [([.string ⟨⟨[97, 119, 97, 105, 116, 32, 114, 53, 32, 51, 32, 114, 49, 32, 101, 113, 32, 114, 48]⟩⟩], .tuple ⟨[.agg ⟨[.int .i64 21, .int .i64 5, .int .i64 1, .int .i64 0, .int .i64 0, .int .i64 3, .int .u32 0, .int .i64 (-1)]⟩, .string ⟨⟨[]⟩⟩, .bool true]⟩),
  ([.string ⟨⟨[108, 111, 97, 100, 32, 114, 52, 32, 50, 32, 114, 49]⟩⟩], .tuple ⟨[.agg ⟨[.int .i64 16, .int .i64 4, .int .i64 1, .int .i64 0, .int .i64 0, .int .i64 2, .int .u32 0, .int .i64 0]⟩, .string ⟨⟨[]⟩⟩, .bool true]⟩),
  ([.string ⟨⟨[98, 110, 101, 32, 114, 52, 32, 114, 48, 32, 104, 97, 115]⟩⟩], .tuple ⟨[.agg ⟨[.int .i64 9, .int .i64 0, .int .i64 4, .int .i64 0, .int .i64 0, .int .i64 0, .int .u32 0, .int .i64 0]⟩, .string ⟨⟨[104, 97, 115]⟩⟩, .bool true]⟩)]
set_option maxRecDepth 1000000 in
theorem rlnC2_ok : TabOk [] 118 rlnC2 := tab_says vars0 C7_ok (by kernel_rfl) (by kernel_rfl)
def rlnC3 : List (List Value × Value) := [([.string ⟨⟨[115, 116, 111, 114, 101, 32, 49, 32, 114, 48, 32, 114, 48]⟩⟩], .tuple ⟨[.agg ⟨[.int .i64 17, .int .i64 0, .int .i64 0, .int .i64 0, .int .i64 0, .int .i64 1, .int .u32 0, .int .i64 0]⟩, .string ⟨⟨[]⟩⟩, .bool true]⟩),
  ([.string ⟨⟨[99, 97, 115, 32, 114, 53, 32, 48, 32, 114, 48, 32, 114, 50, 32, 114, 51]⟩⟩], .tuple ⟨[.agg ⟨[.int .i64 19, .int .i64 5, .int .i64 0, .int .i64 2, .int .i64 3, .int .i64 0, .int .u32 0, .int .i64 0]⟩, .string ⟨⟨[]⟩⟩, .bool true]⟩),
  ([.string ⟨⟨[98, 110, 101, 32, 114, 53, 32, 114, 48, 32, 111, 117, 116]⟩⟩], .tuple ⟨[.agg ⟨[.int .i64 9, .int .i64 0, .int .i64 5, .int .i64 0, .int .i64 0, .int .i64 0, .int .u32 0, .int .i64 0]⟩, .string ⟨⟨[111, 117, 116]⟩⟩, .bool true]⟩)]
set_option maxRecDepth 1000000 in
theorem rlnC3_ok : TabOk [] 118 rlnC3 := tab_says vars0 C7_ok (by kernel_rfl) (by kernel_rfl)
def rlnC4 : List (List Value × Value) := [([.string ⟨⟨[97, 119, 97, 105, 116, 32, 114, 52, 32, 50, 32, 114, 49, 32, 110, 101, 32, 114, 48]⟩⟩], .tuple ⟨[.agg ⟨[.int .i64 21, .int .i64 4, .int .i64 1, .int .i64 0, .int .i64 0, .int .i64 2, .int .u32 1, .int .i64 (-1)]⟩, .string ⟨⟨[]⟩⟩, .bool true]⟩),
  ([.string ⟨⟨[115, 116, 111, 114, 101, 32, 49, 32, 114, 48, 32, 114, 52]⟩⟩], .tuple ⟨[.agg ⟨[.int .i64 17, .int .i64 0, .int .i64 0, .int .i64 4, .int .i64 0, .int .i64 1, .int .u32 0, .int .i64 0]⟩, .string ⟨⟨[]⟩⟩, .bool true]⟩),
  ([.string ⟨⟨[108, 111, 97, 100, 32, 114, 52, 32, 49, 32, 114, 48]⟩⟩], .tuple ⟨[.agg ⟨[.int .i64 16, .int .i64 4, .int .i64 0, .int .i64 0, .int .i64 0, .int .i64 1, .int .u32 0, .int .i64 0]⟩, .string ⟨⟨[]⟩⟩, .bool true]⟩)]
set_option maxRecDepth 1000000 in
theorem rlnC4_ok : TabOk [] 118 rlnC4 := tab_says vars0 C7_ok (by kernel_rfl) (by kernel_rfl)
def rlnC5 : List (List Value × Value) := [([.string ⟨⟨[99, 97, 115, 32, 114, 53, 32, 48, 32, 114, 48, 32, 114, 51, 32, 114, 48]⟩⟩], .tuple ⟨[.agg ⟨[.int .i64 19, .int .i64 5, .int .i64 0, .int .i64 3, .int .i64 0, .int .i64 0, .int .u32 0, .int .i64 0]⟩, .string ⟨⟨[]⟩⟩, .bool true]⟩),
  ([.string ⟨⟨[98, 101, 113, 32, 114, 53, 32, 114, 48, 32, 98, 101, 104, 105, 110, 100]⟩⟩], .tuple ⟨[.agg ⟨[.int .i64 8, .int .i64 0, .int .i64 5, .int .i64 0, .int .i64 0, .int .i64 0, .int .u32 0, .int .i64 0]⟩, .string ⟨⟨[98, 101, 104, 105, 110, 100]⟩⟩, .bool true]⟩),
  ([.string ⟨⟨[97, 119, 97, 105, 116, 32, 114, 52, 32, 49, 32, 114, 48, 32, 110, 101, 32, 114, 48]⟩⟩], .tuple ⟨[.agg ⟨[.int .i64 21, .int .i64 4, .int .i64 0, .int .i64 0, .int .i64 0, .int .i64 1, .int .u32 1, .int .i64 (-1)]⟩, .string ⟨⟨[]⟩⟩, .bool true]⟩)]
set_option maxRecDepth 1000000 in
theorem rlnC5_ok : TabOk [] 118 rlnC5 := tab_says vars0 C7_ok (by kernel_rfl) (by kernel_rfl)
def rlnC6 : List (List Value × Value) := [([.string ⟨⟨[115, 116, 111, 114, 101, 32, 51, 32, 114, 52, 32, 114, 48]⟩⟩], .tuple ⟨[.agg ⟨[.int .i64 17, .int .i64 0, .int .i64 4, .int .i64 0, .int .i64 0, .int .i64 3, .int .u32 0, .int .i64 0]⟩, .string ⟨⟨[]⟩⟩, .bool true]⟩),
  ([.string ⟨⟨[116, 97, 107, 101, 32, 114, 55]⟩⟩], .tuple ⟨[.agg ⟨[.int .i64 22, .int .i64 7, .int .i64 0, .int .i64 0, .int .i64 0, .int .i64 0, .int .u32 0, .int .i64 0]⟩, .string ⟨⟨[]⟩⟩, .bool true]⟩),
  ([.string ⟨⟨[98, 101, 113, 32, 114, 55, 32, 114, 48, 32, 102, 117, 108, 108]⟩⟩], .tuple ⟨[.agg ⟨[.int .i64 8, .int .i64 0, .int .i64 7, .int .i64 0, .int .i64 0, .int .i64 0, .int .u32 0, .int .i64 0]⟩, .string ⟨⟨[102, 117, 108, 108]⟩⟩, .bool true]⟩)]
set_option maxRecDepth 1000000 in
theorem rlnC6_ok : TabOk [] 118 rlnC6 := tab_says vars0 C7_ok (by kernel_rfl) (by kernel_rfl)
def rlnC7 : List (List Value × Value) := [([.string ⟨⟨[97, 119, 97, 105, 116, 32, 114, 50, 32, 49, 32, 114, 54, 32, 110, 101, 32, 114, 48, 32, 101, 108, 115, 101, 32, 108, 101, 97, 118, 101]⟩⟩], .tuple ⟨[.agg ⟨[.int .i64 21, .int .i64 2, .int .i64 6, .int .i64 0, .int .i64 0, .int .i64 1, .int .u32 1, .int .i64 0]⟩, .string ⟨⟨[108, 101, 97, 118, 101]⟩⟩, .bool true]⟩),
  ([.string ⟨⟨[98, 101, 113, 32, 114, 50, 32, 114, 49, 32, 103, 111, 116]⟩⟩], .tuple ⟨[.agg ⟨[.int .i64 8, .int .i64 0, .int .i64 2, .int .i64 1, .int .i64 0, .int .i64 0, .int .u32 0, .int .i64 0]⟩, .string ⟨⟨[103, 111, 116]⟩⟩, .bool true]⟩),
  ([.string ⟨⟨[102, 114, 101, 101, 32, 114, 54]⟩⟩], .tuple ⟨[.agg ⟨[.int .i64 23, .int .i64 0, .int .i64 6, .int .i64 0, .int .i64 0, .int .i64 0, .int .u32 0, .int .i64 0]⟩, .string ⟨⟨[]⟩⟩, .bool true]⟩)]
set_option maxRecDepth 1000000 in
theorem rlnC7_ok : TabOk [] 118 rlnC7 := tab_says vars0 C7_ok (by kernel_rfl) (by kernel_rfl)
def rlnC : List (List Value × Value) := rlnC0 ++ (rlnC1 ++ (rlnC2 ++ (rlnC3 ++ (rlnC4 ++ (rlnC5 ++ (rlnC6 ++ (rlnC7)))))))
theorem rlnC_ok : TabOk [] 118 rlnC := rlnC0_ok.append (rlnC1_ok.append (rlnC2_ok.append (rlnC3_ok.append (rlnC4_ok.append (rlnC5_ok.append (rlnC6_ok.append (rlnC7_ok)))))))
end Go.Proofs.YtjopodnlffaogaaGreatDoor.Abs
end
