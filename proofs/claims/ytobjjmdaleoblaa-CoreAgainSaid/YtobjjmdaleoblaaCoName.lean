/- ropelineref06.Name and reg: whether a number names an instruction, and whether one is a register. -/
import Derived.Test.YtobjjmdaleoblaaCoSmall
import Derived.Deep.WholeRow
namespace Go.Proofs.Ytobjjmdaleoblaa.Co
open Go.RowKit Go.Proofs.YtobjjmdaleoblaaW.PrintWords Go.Proofs.YtobjjmdaleoblaaW.PrintLast Go.Proofs.YtobjjmdaleoblaaW.PrintMore Go.Proofs.Ytobjjmdaleoblaa.PCoreRuns
attribute [local go_sem] max2_int min2_int max_two min_two max_three min_three max_four min_four
set_option linter.unusedVariables false
set_option linter.unusedSimpArgs false

/-- A text, empty or not; what was in memory is as it was. -/
def Named (b : Bool) (w : World) (e : Ending) (w' : World) : Prop := ∃ s : ByteArray, e = .returned (.string s) ∧ s.toList.isEmpty = b ∧ Below w.heap.size w w'
/-- The names' row. -/
def namesRow : Array Value := #[Value.string ⟨#[]⟩, .string ⟨#[99, 111, 110, 115, 116]⟩, .string ⟨#[109, 111, 118, 101]⟩, .string ⟨#[97, 100, 100, 107]⟩, .string ⟨#[97, 110, 100, 107]⟩, .string ⟨#[115, 104, 108]⟩, .string ⟨#[115, 104, 114]⟩, .string ⟨#[111, 114]⟩, .string ⟨#[98, 101, 113]⟩, .string ⟨#[98, 110, 101]⟩, .string ⟨#[106, 117, 109, 112]⟩, .string ⟨#[115, 101, 108, 102]⟩, .string ⟨#[109, 97, 114, 107]⟩, .string ⟨#[100, 111, 110, 101]⟩, .string ⟨#[]⟩, .string ⟨#[]⟩, .string ⟨#[108, 111, 97, 100]⟩, .string ⟨#[115, 116, 111, 114, 101]⟩, .string ⟨#[115, 119, 97, 112]⟩, .string ⟨#[99, 97, 115]⟩, .string ⟨#[102, 97, 100, 100]⟩, .string ⟨#[97, 119, 97, 105, 116]⟩, .string ⟨#[116, 97, 107, 101]⟩, .string ⟨#[102, 114, 101, 101]⟩]
theorem namesRow_size : namesRow.size = 24 := rfl
theorem namesRow_at (n : Nat) (h : n < 24) : ∃ s : ByteArray, namesRow[n]? = some (.string s) ∧ s.toList.isEmpty = (n == 0 || (n == 14 || n == 15)) := by
  have : n = 0 ∨ n = 1 ∨ n = 2 ∨ n = 3 ∨ n = 4 ∨ n = 5 ∨ n = 6 ∨ n = 7 ∨ n = 8 ∨ n = 9 ∨ n = 10 ∨ n = 11 ∨ n = 12 ∨ n = 13 ∨ n = 14 ∨ n = 15 ∨ n = 16 ∨ n = 17 ∨ n = 18 ∨ n = 19 ∨ n = 20 ∨ n = 21 ∨ n = 22 ∨ n = 23 := by omega
  rcases this with rfl | rfl | rfl | rfl | rfl | rfl | rfl | rfl | rfl | rfl | rfl | rfl | rfl | rfl | rfl | rfl | rfl | rfl | rfl | rfl | rfl | rfl | rfl | rfl
  all_goals exact ⟨_, rfl, by decide +kernel⟩
theorem op_value {P : Program} {ops : Array Oper} {rest : List Oper} {o : Oper} {a : Act} {Q : Exit → Act → World → Prop} {w : World} (hg : o.guard = none) {N : Tmp} (hN : o.dst = some N) (v : Value) (w' : World) (hrun : (execOp a.eval o).run P w = .ok (.value v) w')
    (h : wpList P ops Q rest (a.put (some N) v) w') : wpList P ops Q (o :: rest) a w := by
  rw [← hN] at h
  exact wpList_plain hg fun K hK => by unfold Oper.wp; rw [hrun]; exact hK _ _ h
def zeroRow : Array Value := (List.replicate 24 (Value.string ⟨#[]⟩)).toArray
set_option maxHeartbeats 1000000 in
set_option maxRecDepth 100000 in
theorem name_low (op : Int) (w : World) (h1 : decide (op < 1) = true) : Calls Try.prog 20 #[.int .i64 op] w (Named true w) := by
  go_enter Try.func20, Try.ntmps20
  go_upto_region 1 with (fail)
  go_step
  refine op_value (N := 4) rfl rfl (.agg namesRow) w ?hr ?_
  case hr => kernel_rfl
  refine op_value (N := 3) rfl rfl (.pointer (some ⟨w.heap.size, 0, none⟩)) (w.alloc (.cells zeroRow 64)) ?hr2 ?_
  case hr2 => kernel_rfl
  refine wpList_store_row rfl 64 (.tmp 3) (.tmp 4) rfl w.heap.size namesRow rfl rfl 64 _ (heap_alloc_new _ _) (by kernel_rfl) rfl (by kernel_rfl) ?_
  rw [World.setRow_alloc_new]
  go_wp2
  go_ret
  exact ⟨_, rfl, (by decide +kernel), by repeat (first | exact Below.refl _ _ | apply below_alloc | apply pw_below_drewN)⟩
set_option maxHeartbeats 1000000 in
set_option maxRecDepth 100000 in
theorem name_high (op : Int) (w : World) (h1 : decide (op < 1) = false) (h2 : decide (23 < op) = true) : Calls Try.prog 20 #[.int .i64 op] w (Named true w) := by
  go_enter Try.func20, Try.ntmps20
  go_upto_region 1 with (fail)
  go_step
  refine op_value (N := 4) rfl rfl (.agg namesRow) w ?hr ?_
  case hr => kernel_rfl
  refine op_value (N := 3) rfl rfl (.pointer (some ⟨w.heap.size, 0, none⟩)) (w.alloc (.cells zeroRow 64)) ?hr2 ?_
  case hr2 => kernel_rfl
  refine wpList_store_row rfl 64 (.tmp 3) (.tmp 4) rfl w.heap.size namesRow rfl rfl 64 _ (heap_alloc_new _ _) (by kernel_rfl) rfl (by kernel_rfl) ?_
  rw [World.setRow_alloc_new]
  go_wp2
  go_ret
  exact ⟨_, rfl, (by decide +kernel), by repeat (first | exact Below.refl _ _ | apply below_alloc | apply pw_below_drewN)⟩
set_option maxHeartbeats 1000000 in
set_option maxRecDepth 100000 in
theorem name_in (op : Int) (w : World) (b : Bool) (s : ByteArray) (g0 : 1 ≤ op) (g1 : op ≤ 23) (hn : namesRow[op.toNat]? = some (.string s)) (E : Aside0 (s.toList.isEmpty = b)) : Calls Try.prog 20 #[.int .i64 op] w (Named b w) := by
  go_enter Try.func20, Try.ntmps20
  go_upto_region 1 with (fail)
  go_step
  refine op_value (N := 4) rfl rfl (.agg namesRow) w ?hr ?_
  case hr => kernel_rfl
  refine op_value (N := 3) rfl rfl (.pointer (some ⟨w.heap.size, 0, none⟩)) (w.alloc (.cells zeroRow 64)) ?hr2 ?_
  case hr2 => kernel_rfl
  refine wpList_store_row rfl 64 (.tmp 3) (.tmp 4) rfl w.heap.size namesRow rfl rfl 64 _ (heap_alloc_new _ _) (by kernel_rfl) rfl (by kernel_rfl) ?_
  rw [World.setRow_alloc_new]
  go_wp2
  go_ret
  exact ⟨_, rfl, E.out, by repeat (first | exact Below.refl _ _ | apply below_alloc | apply pw_below_drewN)⟩

theorem name_no (op : Int) (w : World) (h : ¬ (1 ≤ op ∧ op ≤ 13 ∨ 16 ≤ op ∧ op ≤ 23)) : Calls Try.prog 20 #[.int .i64 op] w (Named true w) := by
  by_cases h1 : op < 1
  · exact name_low op w (decide_eq_true h1)
  by_cases h2 : 23 < op
  · exact name_high op w (decide_eq_false h1) (decide_eq_true h2)
  obtain ⟨s, hs, he⟩ := namesRow_at op.toNat (by omega)
  refine name_in op w true s (by omega) (by omega) hs ⟨?_⟩
  rw [he]
  have : op = 14 ∨ op = 15 := by omega
  rcases this with rfl | rfl <;> rfl
theorem name_yes (op : Int) (w : World) (h : 1 ≤ op ∧ op ≤ 13 ∨ 16 ≤ op ∧ op ≤ 23) : Calls Try.prog 20 #[.int .i64 op] w (Named false w) := by
  obtain ⟨s, hs, he⟩ := namesRow_at op.toNat (by omega)
  refine name_in op w false s (by omega) (by omega) hs ⟨?_⟩
  rw [he]
  have h0 : (op.toNat == 0) = false := beq_eq_false_iff_ne.mpr (by omega)
  have h14 : (op.toNat == 14) = false := beq_eq_false_iff_ne.mpr (by omega)
  have h15 : (op.toNat == 15) = false := beq_eq_false_iff_ne.mpr (by omega)
  rw [h0, h14, h15]; rfl
set_option maxHeartbeats 1000000 in
set_option maxRecDepth 100000 in
theorem reg_yes (n : Int) (w : World) (h : 0 ≤ n ∧ n ≤ 7) : Calls Try.prog 21 #[.int .i64 n] w fun e w' => e = .returned (.bool true) ∧ w = w' := by
  have h1 : decide (0 ≤ n) = true := decide_eq_true h.1
  have h2 : decide (n ≤ 7) = true := decide_eq_true h.2
  clear h
  go_enter Try.func21, Try.ntmps21
  go_wp2
  go_ret
  exact ⟨rfl, rfl⟩
set_option maxHeartbeats 1000000 in
set_option maxRecDepth 100000 in
theorem reg_no (n : Int) (w : World) (h : ¬ (0 ≤ n ∧ n ≤ 7)) : Calls Try.prog 21 #[.int .i64 n] w fun e w' => e = .returned (.bool false) ∧ w = w' := by
  by_cases h0 : 0 ≤ n
  · have h1 : decide (0 ≤ n) = true := decide_eq_true h0
    have h2 : decide (n ≤ 7) = false := decide_eq_false (by omega)
    clear h h0
    go_enter Try.func21, Try.ntmps21
    go_wp2
    go_ret
    exact ⟨rfl, rfl⟩
  · have h1 : decide (0 ≤ n) = false := decide_eq_false h0
    clear h h0
    go_enter Try.func21, Try.ntmps21
    go_wp2
    go_ret
    exact ⟨rfl, rfl⟩
end Go.Proofs.Ytobjjmdaleoblaa.Co
