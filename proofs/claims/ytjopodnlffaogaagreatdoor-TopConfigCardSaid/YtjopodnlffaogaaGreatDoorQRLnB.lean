/- A part of the proof of TopConfig: TpRLnB. -/
import Derived.Test.YtjopodnlffaogaaGreatDoorQRTab
section
namespace Go.Proofs.YtjopodnlffaogaaGreatDoor.Abs
def rlnB0 : List (List Value × Value) := [([.string ⟨⟨[97, 119, 97, 105, 116, 32, 114, 49, 32, 49, 32, 114, 54, 32, 101, 113, 32, 114, 48]⟩⟩], .tuple ⟨[.agg ⟨[.int .i64 21, .int .i64 1, .int .i64 6, .int .i64 0, .int .i64 0, .int .i64 1, .int .u32 0, .int .i64 (-1)]⟩, .string ⟨⟨[]⟩⟩, .bool true]⟩),
  ([.string ⟨⟨[115, 116, 111, 114, 101, 32, 49, 32, 114, 55, 32, 114, 48]⟩⟩], .tuple ⟨[.agg ⟨[.int .i64 17, .int .i64 0, .int .i64 7, .int .i64 0, .int .i64 0, .int .i64 1, .int .u32 0, .int .i64 0]⟩, .string ⟨⟨[]⟩⟩, .bool true]⟩),
  ([.string ⟨⟨[109, 111, 118, 101, 32, 114, 55, 32, 114, 54]⟩⟩], .tuple ⟨[.agg ⟨[.int .i64 2, .int .i64 7, .int .i64 6, .int .i64 0, .int .i64 0, .int .i64 0, .int .u32 0, .int .i64 0]⟩, .string ⟨⟨[]⟩⟩, .bool true]⟩)]
set_option maxRecDepth 1000000 in
theorem rlnB0_ok : TabOk [] 118 rlnB0 := tab_says vars0 C7_ok (by kernel_rfl) (by kernel_rfl)
def rlnB1 : List (List Value × Value) := [([.string ⟨⟨[97, 100, 100, 107, 32, 114, 50, 32, 114, 49, 32, 49]⟩⟩], .tuple ⟨[.agg ⟨[.int .i64 3, .int .i64 2, .int .i64 1, .int .i64 0, .int .i64 0, .int .i64 0, .int .u32 1, .int .i64 0]⟩, .string ⟨⟨[]⟩⟩, .bool true]⟩),
  ([.string ⟨⟨[115, 116, 111, 114, 101, 32, 49, 32, 114, 49, 32, 114, 48]⟩⟩], .tuple ⟨[.agg ⟨[.int .i64 17, .int .i64 0, .int .i64 1, .int .i64 0, .int .i64 0, .int .i64 1, .int .u32 0, .int .i64 0]⟩, .string ⟨⟨[]⟩⟩, .bool true]⟩),
  ([.string ⟨⟨[115, 116, 111, 114, 101, 32, 50, 32, 114, 49, 32, 114, 51]⟩⟩], .tuple ⟨[.agg ⟨[.int .i64 17, .int .i64 0, .int .i64 1, .int .i64 3, .int .i64 0, .int .i64 2, .int .u32 0, .int .i64 0]⟩, .string ⟨⟨[]⟩⟩, .bool true]⟩)]
set_option maxRecDepth 1000000 in
theorem rlnB1_ok : TabOk [] 118 rlnB1 := tab_says vars0 C7_ok (by kernel_rfl) (by kernel_rfl)
def rlnB2 : List (List Value × Value) := [([.string ⟨⟨[115, 119, 97, 112, 32, 114, 52, 32, 48, 32, 114, 48, 32, 114, 50]⟩⟩], .tuple ⟨[.agg ⟨[.int .i64 18, .int .i64 4, .int .i64 0, .int .i64 2, .int .i64 0, .int .i64 0, .int .u32 0, .int .i64 0]⟩, .string ⟨⟨[]⟩⟩, .bool true]⟩),
  ([.string ⟨⟨[98, 101, 113, 32, 114, 52, 32, 114, 48, 32, 103, 111, 116]⟩⟩], .tuple ⟨[.agg ⟨[.int .i64 8, .int .i64 0, .int .i64 4, .int .i64 0, .int .i64 0, .int .i64 0, .int .u32 0, .int .i64 0]⟩, .string ⟨⟨[103, 111, 116]⟩⟩, .bool true]⟩),
  ([.string ⟨⟨[97, 100, 100, 107, 32, 114, 52, 32, 114, 52, 32, 52, 50, 57, 52, 57, 54, 55, 50, 57, 53]⟩⟩], .tuple ⟨[.agg ⟨[.int .i64 3, .int .i64 4, .int .i64 4, .int .i64 0, .int .i64 0, .int .i64 0, .int .u32 4294967295, .int .i64 0]⟩, .string ⟨⟨[]⟩⟩, .bool true]⟩)]
set_option maxRecDepth 1000000 in
theorem rlnB2_ok : TabOk [] 118 rlnB2 := tab_says vars0 C7_ok (by kernel_rfl) (by kernel_rfl)
def rlnB3 : List (List Value × Value) := [([.string ⟨⟨[115, 116, 111, 114, 101, 32, 49, 32, 114, 52, 32, 114, 50]⟩⟩], .tuple ⟨[.agg ⟨[.int .i64 17, .int .i64 0, .int .i64 4, .int .i64 2, .int .i64 0, .int .i64 1, .int .u32 0, .int .i64 0]⟩, .string ⟨⟨[]⟩⟩, .bool true]⟩),
  ([.string ⟨⟨[97, 119, 97, 105, 116, 32, 114, 53, 32, 50, 32, 114, 49, 32, 101, 113, 32, 114, 48]⟩⟩], .tuple ⟨[.agg ⟨[.int .i64 21, .int .i64 5, .int .i64 1, .int .i64 0, .int .i64 0, .int .i64 2, .int .u32 0, .int .i64 (-1)]⟩, .string ⟨⟨[]⟩⟩, .bool true]⟩),
  ([.string ⟨⟨[108, 111, 97, 100, 32, 114, 52, 32, 49, 32, 114, 49]⟩⟩], .tuple ⟨[.agg ⟨[.int .i64 16, .int .i64 4, .int .i64 1, .int .i64 0, .int .i64 0, .int .i64 1, .int .u32 0, .int .i64 0]⟩, .string ⟨⟨[]⟩⟩, .bool true]⟩)]
set_option maxRecDepth 1000000 in
theorem rlnB3_ok : TabOk [] 118 rlnB3 := tab_says vars0 C7_ok (by kernel_rfl) (by kernel_rfl)
def rlnB4 : List (List Value × Value) := [([.string ⟨⟨[98, 110, 101, 32, 114, 52, 32, 114, 48, 32, 104, 97, 110, 100]⟩⟩], .tuple ⟨[.agg ⟨[.int .i64 9, .int .i64 0, .int .i64 4, .int .i64 0, .int .i64 0, .int .i64 0, .int .u32 0, .int .i64 0]⟩, .string ⟨⟨[104, 97, 110, 100]⟩⟩, .bool true]⟩),
  ([.string ⟨⟨[99, 97, 115, 32, 114, 53, 32, 48, 32, 114, 48, 32, 114, 50, 32, 114, 48]⟩⟩], .tuple ⟨[.agg ⟨[.int .i64 19, .int .i64 5, .int .i64 0, .int .i64 2, .int .i64 0, .int .i64 0, .int .u32 0, .int .i64 0]⟩, .string ⟨⟨[]⟩⟩, .bool true]⟩),
  ([.string ⟨⟨[98, 101, 113, 32, 114, 53, 32, 114, 48, 32, 108, 105, 110, 107]⟩⟩], .tuple ⟨[.agg ⟨[.int .i64 8, .int .i64 0, .int .i64 5, .int .i64 0, .int .i64 0, .int .i64 0, .int .u32 0, .int .i64 0]⟩, .string ⟨⟨[108, 105, 110, 107]⟩⟩, .bool true]⟩)]
set_option maxRecDepth 1000000 in
theorem rlnB4_ok : TabOk [] 118 rlnB4 := tab_says vars0 C7_ok (by kernel_rfl) (by kernel_rfl)
def rlnB5 : List (List Value × Value) := [([.string ⟨⟨[97, 119, 97, 105, 116, 32, 114, 52, 32, 49, 32, 114, 49, 32, 110, 101, 32, 114, 48]⟩⟩], .tuple ⟨[.agg ⟨[.int .i64 21, .int .i64 4, .int .i64 1, .int .i64 0, .int .i64 0, .int .i64 1, .int .u32 1, .int .i64 (-1)]⟩, .string ⟨⟨[]⟩⟩, .bool true]⟩),
  ([.string ⟨⟨[115, 116, 111, 114, 101, 32, 50, 32, 114, 52, 32, 114, 48]⟩⟩], .tuple ⟨[.agg ⟨[.int .i64 17, .int .i64 0, .int .i64 4, .int .i64 0, .int .i64 0, .int .i64 2, .int .u32 0, .int .i64 0]⟩, .string ⟨⟨[]⟩⟩, .bool true]⟩),
  ([.string ⟨⟨[97, 100, 100, 107, 32, 114, 50, 32, 114, 49, 32, 50]⟩⟩], .tuple ⟨[.agg ⟨[.int .i64 3, .int .i64 2, .int .i64 1, .int .i64 0, .int .i64 0, .int .i64 0, .int .u32 2, .int .i64 0]⟩, .string ⟨⟨[]⟩⟩, .bool true]⟩)]
set_option maxRecDepth 1000000 in
theorem rlnB5_ok : TabOk [] 118 rlnB5 := tab_says vars0 C7_ok (by kernel_rfl) (by kernel_rfl)
def rlnB6 : List (List Value × Value) := [([.string ⟨⟨[108, 111, 97, 100, 32, 114, 52, 32, 48, 32, 114, 48]⟩⟩], .tuple ⟨[.agg ⟨[.int .i64 16, .int .i64 4, .int .i64 0, .int .i64 0, .int .i64 0, .int .i64 0, .int .u32 0, .int .i64 0]⟩, .string ⟨⟨[]⟩⟩, .bool true]⟩),
  ([.string ⟨⟨[98, 110, 101, 32, 114, 52, 32, 114, 48, 32, 113, 117, 101, 117, 101]⟩⟩], .tuple ⟨[.agg ⟨[.int .i64 9, .int .i64 0, .int .i64 4, .int .i64 0, .int .i64 0, .int .i64 0, .int .u32 0, .int .i64 0]⟩, .string ⟨⟨[113, 117, 101, 117, 101]⟩⟩, .bool true]⟩),
  ([.string ⟨⟨[99, 97, 115, 32, 114, 53, 32, 48, 32, 114, 48, 32, 114, 48, 32, 114, 51]⟩⟩], .tuple ⟨[.agg ⟨[.int .i64 19, .int .i64 5, .int .i64 0, .int .i64 0, .int .i64 3, .int .i64 0, .int .u32 0, .int .i64 0]⟩, .string ⟨⟨[]⟩⟩, .bool true]⟩)]
set_option maxRecDepth 1000000 in
theorem rlnB6_ok : TabOk [] 118 rlnB6 := tab_says vars0 C7_ok (by kernel_rfl) (by kernel_rfl)
def rlnB7 : List (List Value × Value) := [([.string ⟨⟨[98, 101, 113, 32, 114, 53, 32, 114, 48, 32, 97, 103, 97, 105, 110]⟩⟩], .tuple ⟨[.agg ⟨[.int .i64 8, .int .i64 0, .int .i64 5, .int .i64 0, .int .i64 0, .int .i64 0, .int .u32 0, .int .i64 0]⟩, .string ⟨⟨[97, 103, 97, 105, 110]⟩⟩, .bool true]⟩),
  ([.string ⟨⟨[115, 116, 111, 114, 101, 32, 50, 32, 114, 49, 32, 114, 48]⟩⟩], .tuple ⟨[.agg ⟨[.int .i64 17, .int .i64 0, .int .i64 1, .int .i64 0, .int .i64 0, .int .i64 2, .int .u32 0, .int .i64 0]⟩, .string ⟨⟨[]⟩⟩, .bool true]⟩),
  ([.string ⟨⟨[115, 116, 111, 114, 101, 32, 51, 32, 114, 49, 32, 114, 51]⟩⟩], .tuple ⟨[.agg ⟨[.int .i64 17, .int .i64 0, .int .i64 1, .int .i64 3, .int .i64 0, .int .i64 3, .int .u32 0, .int .i64 0]⟩, .string ⟨⟨[]⟩⟩, .bool true]⟩)]
set_option maxRecDepth 1000000 in
theorem rlnB7_ok : TabOk [] 118 rlnB7 := tab_says vars0 C7_ok (by kernel_rfl) (by kernel_rfl)
def rlnB : List (List Value × Value) := rlnB0 ++ (rlnB1 ++ (rlnB2 ++ (rlnB3 ++ (rlnB4 ++ (rlnB5 ++ (rlnB6 ++ (rlnB7)))))))
theorem rlnB_ok : TabOk [] 118 rlnB := rlnB0_ok.append (rlnB1_ok.append (rlnB2_ok.append (rlnB3_ok.append (rlnB4_ok.append (rlnB5_ok.append (rlnB6_ok.append (rlnB7_ok)))))))
end Go.Proofs.YtjopodnlffaogaaGreatDoor.Abs
end
