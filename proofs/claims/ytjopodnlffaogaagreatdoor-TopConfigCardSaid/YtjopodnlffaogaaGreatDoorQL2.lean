/- A part of the proof of TopConfig: TpOf, TpIRight0. -/
import Derived.Test.YtjopodnlffaogaaGreatDoorQTab
section
namespace Go.Proofs.YtjopodnlffaogaaGreatDoor.Tp
open Go.RowKit Go.Proofs.YtjopodnlffaogaaGreatDoorW.PrintWords Go.Proofs.YtjopodnlffaogaaGreatDoorW.PrintLast Go.Proofs.YtjopodnlffaogaaGreatDoorW.PrintMore
attribute [local go_sem] max2_int min2_int max_two min_two max_three min_three max_four min_four
set_option linter.unusedVariables false
set_option linter.unusedSimpArgs false
open Abs
theorem known0 {f : FuncId} {args : List Value} {v : Value} (h : Known Tryz.prog [] f args v) (w : World) : Calls Tryz.prog f args.toArray w fun e w' => e = .returned v ∧ Below w.heap.size w w' := by
  refine (h ⟨fun b => if b < 12 then some b else none, fun _ => 0⟩ ⟨13, .nil⟩ w ⟨(fun b o hb => by cases hb), fun b b' c hb => absurd rfl hb⟩ (fun g hg => if_pos hg) rfl).mono ?_
  rintro e w' ⟨rfl, hm⟩
  exact ⟨rfl, hm.os, hm.tape, hm.output, hm.size, fun i hi => hm.block i hi (fun hf => hf)⟩
def pairOf : Value → Option (ByteArray × ByteArray)
  | .agg ⟨[.string a, .string b]⟩ => some (a, b)
  | _ => none
theorem pairOf_eq {v : Value} {a b : ByteArray} (h : pairOf v = some (a, b)) : v = .agg #[.string a, .string b] := by
  unfold pairOf at h
  split at h
  · cases h; rfl
  · cases h
def isOp (op : Int) : List Value → Bool
  | [.int .i64 k] => k == op
  | _ => false
theorem isOp_eq {op : Int} {l : List Value} (h : isOp op l = true) : l = [.int .i64 op] := by
  unfold isOp at h
  split at h
  · rw [beq_iff_eq] at h; rw [h]
  · cases h
def inst_of.f (op : Int) : Option (ByteArray × ByteArray) := (ofT.find? fun r => isOp op r.1).bind fun r => pairOf r.2
theorem inst_of.calls (a0 : Int) (r1 : ByteArray) (r2 : ByteArray) (w : World) (h : inst_of.f a0 = some (r1, r2)) :
    Calls Tryz.prog 209 #[.int .i64 a0] w fun e w' => e = .returned (.agg #[.string r1, .string r2]) ∧ Below w.heap.size w w' := by
  obtain ⟨r, h1, h2⟩ := Option.bind_eq_some_iff.1 h
  obtain ⟨_, _, hk⟩ := ofT_ok r (List.mem_of_find?_eq_some h1)
  have h3 : isOp a0 r.1 = true := List.find?_some (p := fun r : List Value × Value => isOp a0 r.1) h1
  rw [isOp_eq h3, pairOf_eq h2] at hk
  exact known0 (args := [.int .i64 a0]) hk w
end Go.Proofs.YtjopodnlffaogaaGreatDoor.Tp
end
section
namespace Go.Proofs.YtjopodnlffaogaaGreatDoor.Tp
open Go.RowKit Go.Proofs.YtjopodnlffaogaaGreatDoorW.PrintWords Go.Proofs.YtjopodnlffaogaaGreatDoorW.PrintLast Go.Proofs.YtjopodnlffaogaaGreatDoorW.PrintMore
attribute [local go_sem] max2_int min2_int max_two min_two max_three min_three max_four min_four
set_option linter.unusedVariables false
set_option linter.unusedSimpArgs false
def signOk (n : Int) (x : Ins) (c : Int) : Bool :=
  if c = 68 then decide (0 ≤ x.d) && decide (x.d ≤ 7) else if c = 83 then decide (0 ≤ x.s) && decide (x.s ≤ 7) else if c = 84 then decide (0 ≤ x.t) && decide (x.t ≤ 7) else if c = 85 then decide (0 ≤ x.u) && decide (x.u ≤ 7)
  else if c = 65 then decide (0 ≤ x.a) && decide (x.a ≤ 7) else if c = 75 then true else if c = 66 then decide (x.k ≤ 31) else if c = 77 then decide (1 ≤ x.k) && decide (x.k ≤ 4) else if c = 79 then decide (x.k ≤ 3)
  else if c = 87 then decide (x.k ≤ 1) && (decide (0 ≤ x.t) && decide (x.t ≤ 7) && (decide (-1 ≤ x.to_) && (decide (x.to_ = -1) || decide (x.to_ < n)))) else if c = 80 then decide (0 ≤ x.to_) && decide (x.to_ < n) else false
def signZero (x : Ins) (c : Int) : Ins :=
  if c = 68 then { x with d := 0 } else if c = 83 then { x with s := 0 } else if c = 84 then { x with t := 0 } else if c = 85 then { x with u := 0 } else if c = 65 then { x with a := 0 }
  else if c = 75 ∨ c = 66 ∨ c = 77 ∨ c = 79 then { x with k := 0 } else if c = 87 then { x with k := 0, t := 0, to_ := 0 } else { x with to_ := 0 }
def insZero : Ins := ⟨0, 0, 0, 0, 0, 0, 0, 0⟩
deriving instance DecidableEq for Ins
def rightL (n : Int) : List Int → Ins → Option Bool
  | [], x => if x = insZero then some true else none
  | c :: cs, x => if signOk n x c then rightL n cs (signZero x c) else some false
def isSign (c : Int) : Prop := c = 68 ∨ c = 83 ∨ c = 84 ∨ c = 85 ∨ c = 65 ∨ c = 75 ∨ c = 66 ∨ c = 77 ∨ c = 79 ∨ c = 87 ∨ c = 80
theorem field_D (g : Nat) (w : World) : Calls Tryz.prog 210 #[.pointer (some ⟨g, 0, none⟩), .int .u8 68] w fun e w' => e = .returned (.tuple #[.pointer (some ⟨g, 1, none⟩), .int .i64 7]) ∧ w = w' := by
  go_enter Tryz.func210, Tryz.ntmps210
  go_wp2
  go_ret2
  exact ⟨rfl, rfl⟩
theorem within_D (w : World) : Calls Tryz.prog 211 #[.int .u8 68] w fun e w' => e = .returned (.tuple #[.int .u32 0, .int .u32 0, .bool false]) ∧ Drawn0 w w' := by
  go_enter Tryz.func211, Tryz.ntmps211
  go_wp2
  go_ret3
  exact ⟨rfl, Drawn0.refl _⟩
theorem field_S (g : Nat) (w : World) : Calls Tryz.prog 210 #[.pointer (some ⟨g, 0, none⟩), .int .u8 83] w fun e w' => e = .returned (.tuple #[.pointer (some ⟨g, 2, none⟩), .int .i64 7]) ∧ w = w' := by
  go_enter Tryz.func210, Tryz.ntmps210
  go_wp2
  go_ret2
  exact ⟨rfl, rfl⟩
theorem within_S (w : World) : Calls Tryz.prog 211 #[.int .u8 83] w fun e w' => e = .returned (.tuple #[.int .u32 0, .int .u32 0, .bool false]) ∧ Drawn0 w w' := by
  go_enter Tryz.func211, Tryz.ntmps211
  go_wp2
  go_ret3
  exact ⟨rfl, Drawn0.refl _⟩
theorem field_T (g : Nat) (w : World) : Calls Tryz.prog 210 #[.pointer (some ⟨g, 0, none⟩), .int .u8 84] w fun e w' => e = .returned (.tuple #[.pointer (some ⟨g, 3, none⟩), .int .i64 7]) ∧ w = w' := by
  go_enter Tryz.func210, Tryz.ntmps210
  go_wp2
  go_ret2
  exact ⟨rfl, rfl⟩
theorem within_T (w : World) : Calls Tryz.prog 211 #[.int .u8 84] w fun e w' => e = .returned (.tuple #[.int .u32 0, .int .u32 0, .bool false]) ∧ Drawn0 w w' := by
  go_enter Tryz.func211, Tryz.ntmps211
  go_wp2
  go_ret3
  exact ⟨rfl, Drawn0.refl _⟩
theorem field_U (g : Nat) (w : World) : Calls Tryz.prog 210 #[.pointer (some ⟨g, 0, none⟩), .int .u8 85] w fun e w' => e = .returned (.tuple #[.pointer (some ⟨g, 4, none⟩), .int .i64 7]) ∧ w = w' := by
  go_enter Tryz.func210, Tryz.ntmps210
  go_wp2
  go_ret2
  exact ⟨rfl, rfl⟩
theorem within_U (w : World) : Calls Tryz.prog 211 #[.int .u8 85] w fun e w' => e = .returned (.tuple #[.int .u32 0, .int .u32 0, .bool false]) ∧ Drawn0 w w' := by
  go_enter Tryz.func211, Tryz.ntmps211
  go_wp2
  go_ret3
  exact ⟨rfl, Drawn0.refl _⟩
theorem field_A (g : Nat) (w : World) : Calls Tryz.prog 210 #[.pointer (some ⟨g, 0, none⟩), .int .u8 65] w fun e w' => e = .returned (.tuple #[.pointer (some ⟨g, 5, none⟩), .int .i64 7]) ∧ w = w' := by
  go_enter Tryz.func210, Tryz.ntmps210
  go_wp2
  go_ret2
  exact ⟨rfl, rfl⟩
theorem within_A (w : World) : Calls Tryz.prog 211 #[.int .u8 65] w fun e w' => e = .returned (.tuple #[.int .u32 0, .int .u32 0, .bool false]) ∧ Drawn0 w w' := by
  go_enter Tryz.func211, Tryz.ntmps211
  go_wp2
  go_ret3
  exact ⟨rfl, Drawn0.refl _⟩
theorem field_K (g : Nat) (w : World) : Calls Tryz.prog 210 #[.pointer (some ⟨g, 0, none⟩), .int .u8 75] w fun e w' => e = .returned (.tuple #[.pointer none, .int .i64 0]) ∧ w = w' := by
  go_enter Tryz.func210, Tryz.ntmps210
  go_wp2
  go_ret2
  exact ⟨rfl, rfl⟩
theorem within_K (w : World) : Calls Tryz.prog 211 #[.int .u8 75] w fun e w' => e = .returned (.tuple #[.int .u32 0, .int .u32 4294967295, .bool true]) ∧ Drawn0 w w' := by
  go_enter Tryz.func211, Tryz.ntmps211
  go_wp2
  go_ret3
  exact ⟨rfl, Drawn0.refl _⟩
theorem field_B (g : Nat) (w : World) : Calls Tryz.prog 210 #[.pointer (some ⟨g, 0, none⟩), .int .u8 66] w fun e w' => e = .returned (.tuple #[.pointer none, .int .i64 0]) ∧ w = w' := by
  go_enter Tryz.func210, Tryz.ntmps210
  go_wp2
  go_ret2
  exact ⟨rfl, rfl⟩
theorem within_B (w : World) : Calls Tryz.prog 211 #[.int .u8 66] w fun e w' => e = .returned (.tuple #[.int .u32 0, .int .u32 31, .bool true]) ∧ Drawn0 w w' := by
  go_enter Tryz.func211, Tryz.ntmps211
  go_wp2
  go_ret3
  exact ⟨rfl, Drawn0.refl _⟩
theorem field_M (g : Nat) (w : World) : Calls Tryz.prog 210 #[.pointer (some ⟨g, 0, none⟩), .int .u8 77] w fun e w' => e = .returned (.tuple #[.pointer none, .int .i64 0]) ∧ w = w' := by
  go_enter Tryz.func210, Tryz.ntmps210
  go_wp2
  go_ret2
  exact ⟨rfl, rfl⟩
theorem within_M (w : World) : Calls Tryz.prog 211 #[.int .u8 77] w fun e w' => e = .returned (.tuple #[.int .u32 1, .int .u32 4, .bool true]) ∧ Drawn0 w w' := by
  go_enter Tryz.func211, Tryz.ntmps211
  go_wp2
  go_ret3
  exact ⟨rfl, Drawn0.refl _⟩
theorem field_O (g : Nat) (w : World) : Calls Tryz.prog 210 #[.pointer (some ⟨g, 0, none⟩), .int .u8 79] w fun e w' => e = .returned (.tuple #[.pointer none, .int .i64 0]) ∧ w = w' := by
  go_enter Tryz.func210, Tryz.ntmps210
  go_wp2
  go_ret2
  exact ⟨rfl, rfl⟩
theorem within_O (w : World) : Calls Tryz.prog 211 #[.int .u8 79] w fun e w' => e = .returned (.tuple #[.int .u32 0, .int .u32 3, .bool true]) ∧ Drawn0 w w' := by
  go_enter Tryz.func211, Tryz.ntmps211
  go_wp2
  go_ret3
  exact ⟨rfl, Drawn0.refl _⟩
theorem field_W (g : Nat) (w : World) : Calls Tryz.prog 210 #[.pointer (some ⟨g, 0, none⟩), .int .u8 87] w fun e w' => e = .returned (.tuple #[.pointer none, .int .i64 0]) ∧ w = w' := by
  go_enter Tryz.func210, Tryz.ntmps210
  go_wp2
  go_ret2
  exact ⟨rfl, rfl⟩
theorem within_W (w : World) : Calls Tryz.prog 211 #[.int .u8 87] w fun e w' => e = .returned (.tuple #[.int .u32 0, .int .u32 1, .bool true]) ∧ Drawn0 w w' := by
  go_enter Tryz.func211, Tryz.ntmps211
  go_wp2
  go_ret3
  exact ⟨rfl, Drawn0.refl _⟩
theorem field_P (g : Nat) (w : World) : Calls Tryz.prog 210 #[.pointer (some ⟨g, 0, none⟩), .int .u8 80] w fun e w' => e = .returned (.tuple #[.pointer none, .int .i64 0]) ∧ w = w' := by
  go_enter Tryz.func210, Tryz.ntmps210
  go_wp2
  go_ret2
  exact ⟨rfl, rfl⟩
theorem within_P (w : World) : Calls Tryz.prog 211 #[.int .u8 80] w fun e w' => e = .returned (.tuple #[.int .u32 0, .int .u32 0, .bool false]) ∧ Drawn0 w w' := by
  go_enter Tryz.func211, Tryz.ntmps211
  go_wp2
  go_ret3
  exact ⟨rfl, Drawn0.refl _⟩
end Go.Proofs.YtjopodnlffaogaaGreatDoor.Tp
end
