/- A part of the proof of TopConfig: TpAsmMcs. -/
import Derived.Test.YtjopodnlffaogaaGreatDoorQL3
section
namespace Go.Proofs.YtjopodnlffaogaaGreatDoor.Abs
open Tp
noncomputable def mcsV : Value := .tuple ⟨[.agg ⟨[.slice (some ⟨873, 0, none⟩) 24 1, .int .i64 0, .int .i64 13]⟩, .int .i64 0, .int .i64 0]⟩
noncomputable def mcsH : List (Nat × AO) := [(13, .row [.slice (some ⟨873, 0, none⟩) 24 1, .int .i64 0, .int .i64 13] 112 0),
  (14, .row [.int .i64 0] 3 0),
  (15, .row [.int .i64 0] 26 0),
  (16, .obj (.map ⟨[⟨.string ⟨⟨[108, 111, 99, 107]⟩⟩, .int .i64 0, 0⟩, ⟨.string ⟨⟨[103, 111, 116]⟩⟩, .int .i64 11, 1⟩, ⟨.string ⟨⟨[117, 110, 108, 111, 99, 107]⟩⟩, .int .i64 13, 2⟩, ⟨.string ⟨⟨[108, 105, 110, 107]⟩⟩, .int .i64 19, 3⟩, ⟨.string ⟨⟨[104, 97, 110, 100]⟩⟩, .int .i64 20, 4⟩]⟩ 5)),
  (17, .row [.slice (some ⟨873, 0, none⟩) 24 1, .slice (some ⟨880, 0, none⟩) 24 1, .slice (some ⟨887, 0, none⟩) 24 1, .map (some 16)] 304 0),
  (18, .row [.pointer (some ⟨17, 0, none⟩)] 301 0),
  (19, .row [.int .i64 29] 3 0),
  (873, .row [.int .i64 11, .int .i64 1, .int .i64 0, .int .i64 0, .int .i64 0, .int .i64 0, .int .u32 0, .int .i64 0, .int .i64 3, .int .i64 2, .int .i64 1, .int .i64 0, .int .i64 0, .int .i64 0, .int .u32 1, .int .i64 0, .int .i64 17, .int .i64 0, .int .i64 1, .int .i64 0, .int .i64 0, .int .i64 1, .int .u32 0, .int .i64 0, .int .i64 1, .int .i64 3, .int .i64 0, .int .i64 0, .int .i64 0, .int .i64 0, .int .u32 1, .int .i64 0, .int .i64 17, .int .i64 0, .int .i64 1, .int .i64 3, .int .i64 0, .int .i64 2, .int .u32 0, .int .i64 0, .int .i64 18, .int .i64 4, .int .i64 0, .int .i64 2, .int .i64 0, .int .i64 0, .int .u32 0, .int .i64 0, .int .i64 12, .int .i64 0, .int .i64 0, .int .i64 0, .int .i64 0, .int .i64 0, .int .u32 1, .int .i64 0, .int .i64 8, .int .i64 0, .int .i64 4, .int .i64 0, .int .i64 0, .int .i64 0, .int .u32 0, .int .i64 11, .int .i64 3, .int .i64 4, .int .i64 4, .int .i64 0, .int .i64 0, .int .i64 0, .int .u32 4294967295, .int .i64 0, .int .i64 17, .int .i64 0, .int .i64 4, .int .i64 2, .int .i64 0, .int .i64 1, .int .u32 0, .int .i64 0, .int .i64 21, .int .i64 5, .int .i64 1, .int .i64 0, .int .i64 0, .int .i64 2, .int .u32 0, .int .i64 (-1), .int .i64 12, .int .i64 0, .int .i64 0, .int .i64 0, .int .i64 0, .int .i64 0, .int .u32 2, .int .i64 0, .int .i64 13, .int .i64 0, .int .i64 0, .int .i64 0, .int .i64 0, .int .i64 0, .int .u32 1, .int .i64 0, .int .i64 16, .int .i64 4, .int .i64 1, .int .i64 0, .int .i64 0, .int .i64 1, .int .u32 0, .int .i64 0, .int .i64 9, .int .i64 0, .int .i64 4, .int .i64 0, .int .i64 0, .int .i64 0, .int .u32 0, .int .i64 20, .int .i64 19, .int .i64 5, .int .i64 0, .int .i64 2, .int .i64 0, .int .i64 0, .int .u32 0, .int .i64 0, .int .i64 8, .int .i64 0, .int .i64 5, .int .i64 0, .int .i64 0, .int .i64 0, .int .u32 0, .int .i64 19, .int .i64 12, .int .i64 0, .int .i64 0, .int .i64 0, .int .i64 0, .int .i64 0, .int .u32 4, .int .i64 0, .int .i64 13, .int .i64 0, .int .i64 0, .int .i64 0, .int .i64 0, .int .i64 0, .int .u32 2, .int .i64 0, .int .i64 21, .int .i64 4, .int .i64 1, .int .i64 0, .int .i64 0, .int .i64 1, .int .u32 1, .int .i64 (-1), .int .i64 3, .int .i64 4, .int .i64 4, .int .i64 0, .int .i64 0, .int .i64 0, .int .u32 4294967295, .int .i64 0, .int .i64 17, .int .i64 0, .int .i64 4, .int .i64 0, .int .i64 0, .int .i64 2, .int .u32 0, .int .i64 0, .int .i64 12, .int .i64 0, .int .i64 0, .int .i64 0, .int .i64 0, .int .i64 0, .int .u32 4, .int .i64 0, .int .i64 13, .int .i64 0, .int .i64 0, .int .i64 0, .int .i64 0, .int .i64 0, .int .u32 2, .int .i64 0] 214 1),
  (880, .row [.string ⟨⟨[]⟩⟩, .string ⟨⟨[]⟩⟩, .string ⟨⟨[]⟩⟩, .string ⟨⟨[]⟩⟩, .string ⟨⟨[]⟩⟩, .string ⟨⟨[]⟩⟩, .string ⟨⟨[]⟩⟩, .string ⟨⟨[103, 111, 116]⟩⟩, .string ⟨⟨[]⟩⟩, .string ⟨⟨[]⟩⟩, .string ⟨⟨[]⟩⟩, .string ⟨⟨[]⟩⟩, .string ⟨⟨[]⟩⟩, .string ⟨⟨[]⟩⟩, .string ⟨⟨[104, 97, 110, 100]⟩⟩, .string ⟨⟨[]⟩⟩, .string ⟨⟨[108, 105, 110, 107]⟩⟩, .string ⟨⟨[]⟩⟩, .string ⟨⟨[]⟩⟩, .string ⟨⟨[]⟩⟩, .string ⟨⟨[]⟩⟩, .string ⟨⟨[]⟩⟩, .string ⟨⟨[]⟩⟩, .string ⟨⟨[]⟩⟩] 9 1),
  (887, .row [.int .i64 2, .int .i64 3, .int .i64 4, .int .i64 5, .int .i64 6, .int .i64 7, .int .i64 8, .int .i64 9, .int .i64 10, .int .i64 11, .int .i64 12, .int .i64 14, .int .i64 15, .int .i64 17, .int .i64 18, .int .i64 19, .int .i64 20, .int .i64 21, .int .i64 22, .int .i64 24, .int .i64 26, .int .i64 27, .int .i64 28, .int .i64 29] 3 1)]
noncomputable def isVH (r : Option (Value × A)) (vs : Vars) (v : Value) (n : Nat) (l : List (Nat × AO)) : Bool :=
  match r with
  | some (u, a) => veq u v && subOk a n (varRows vs ++ l)
  | none => false
theorem ok_of_isVH {f : FuncId} {args : List Value} {r : Option (Value × A)} {vs : Vars} {v : Value} {n : Nat} {l : List (Nat × AO)} (h : isVH r vs v n l = true) (hr : ∀ u a, r = some (u, a) → OkRun f args (mkA vs) u a) : ∃ a', OkRun f args (mkA vs) v a' ∧ subOk a' n (varRows vs ++ l) = true := by
  unfold isVH at h
  split at h
  · rename_i u a
    simp only [Bool.and_eq_true] at h
    have e := veq_eq h.1
    subst e
    exact ⟨a, hr _ _ rfl, h.2⟩
  · cases h
set_option maxRecDepth 1000000 in
theorem mcs_both : (asmIs (linedI Tryz.prog 1000 C4 [159] 159 [.string mcsText] (mkA V1)) (mcsL).length (insCells (mcsL)) 0 13 && isVH (linedI Tryz.prog 1000 C4 [159] 159 [.string mcsText] (mkA V1)) V1 mcsV 1004 mcsH) = true := by kernel_rfl
theorem mcs_asm : AsmOk mcsText mcsL 0 13 := asm_of_run C4_ok (Bool.and_eq_true_iff.1 mcs_both).1
noncomputable def mcsI : Callee := relI V1 159 [.string mcsText] mcsV 1004 mcsH
theorem mcsI_ok : CallOk Tryz.prog 12 mcsI := by
  obtain ⟨a', h1, h2⟩ := ok_of_isVH (f := 159) (args := [.string mcsText]) (Bool.and_eq_true_iff.1 mcs_both).2 (fun u a h => OkRun.of_call (linedI_ok C4_ok wide [159]) h)
  exact rel_ok vars1 h1 rfl h2 (by kernel_rfl) (by decide)
end Go.Proofs.YtjopodnlffaogaaGreatDoor.Abs
end
