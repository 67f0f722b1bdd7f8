/- ropelinelaw08.awake: the document's examples hold. -/
import Derived.Test.YtobjjmdaleoblaaCoRun
namespace Go.Proofs.Ytobjjmdaleoblaa.Co
open Go.RowKit Go.Proofs.YtobjjmdaleoblaaW.PrintWords Go.Proofs.YtobjjmdaleoblaaW.PrintLast Go.Proofs.YtobjjmdaleoblaaW.PrintMore Go.Proofs.Ytobjjmdaleoblaa.PCoreRuns
attribute [local go_sem] max2_int min2_int max_two min_two max_three min_three max_four min_four
set_option linter.unusedVariables false
set_option linter.unusedSimpArgs false

def c00 : Cr := ⟨0, 0, 0, 0, 0, 0, 0, 0, 0⟩
def la : List S27 := [⟨1, 1, 0, 0, 0, 0, 5, 0⟩, ⟨13, 0, 0, 0, 0, 0, 1, 0⟩]
def lb : List S27 := [⟨10, 0, 0, 0, 0, 0, 0, 0⟩]
def cellsA : Array Value := #[.int .i64 1, .int .i64 1, .int .i64 0, .int .i64 0, .int .i64 0, .int .i64 0, .int .u32 5, .int .i64 0, .int .i64 13, .int .i64 0, .int .i64 0, .int .i64 0, .int .i64 0, .int .i64 0, .int .u32 1, .int .i64 0]
def cellsB : Array Value := #[.int .i64 10, .int .i64 0, .int .i64 0, .int .i64 0, .int .i64 0, .int .i64 0, .int .u32 0, .int .i64 0]
theorem c00_ok : c00.ok := by refine ⟨?_, ?_, ?_, ?_, ?_, ?_, ?_, ?_⟩ <;> decide
theorem add_at (g j : Nat) : (⟨g, 0, none⟩ : Addr).add j = ⟨g, j, none⟩ := by unfold Addr.add; split <;> simp_all
theorem reads_a {w : World} {g : Nat} (h : w.heap[g]? = some (.cells cellsA 27 (0, 0))) : Kd.C k27 w (some ⟨g, 0, none⟩) la.length la := by
  refine ⟨rfl, by decide, fun _ => ⟨_, rfl, fun j p hj => ?_⟩⟩
  match j with
  | 0 =>
    obtain rfl : la[0] = p := Option.some.inj hj
    refine ⟨_, rfl, k27_mk w _, fun i u hu => ?_⟩
    rw [add_at, blk_cell h]
    match i with
    | 0 | 1 | 2 | 3 | 4 | 5 | 6 | 7 => exact hu
    | n + 8 => cases hu
  | 1 =>
    obtain rfl : la[1] = p := Option.some.inj hj
    refine ⟨_, rfl, k27_mk w _, fun i u hu => ?_⟩
    rw [add_at, blk_cell h]
    match i with
    | 0 | 1 | 2 | 3 | 4 | 5 | 6 | 7 => exact hu
    | n + 8 => cases hu
  | n + 2 => cases hj
theorem reads_b {w : World} {g : Nat} (h : w.heap[g]? = some (.cells cellsB 27 (0, 0))) : Kd.C k27 w (some ⟨g, 0, none⟩) lb.length lb := by
  refine ⟨rfl, by decide, fun _ => ⟨_, rfl, fun j p hj => ?_⟩⟩
  match j with
  | 0 =>
    obtain rfl : lb[0] = p := Option.some.inj hj
    refine ⟨_, rfl, k27_mk w _, fun i u hu => ?_⟩
    rw [add_at, blk_cell h]
    match i with
    | 0 | 1 | 2 | 3 | 4 | 5 | 6 | 7 => exact hu
    | n + 8 => cases hu
  | n + 1 => cases hj
theorem la_ok : ∀ i ∈ la, okI i := by
  intro i hi
  simp only [la, List.mem_cons, List.not_mem_nil, or_false] at hi
  rcases hi with rfl | rfl <;> exact ⟨by decide, by decide, by decide, by decide, by decide, by decide⟩
theorem lb_ok : ∀ i ∈ lb, okI i := by
  intro i hi
  simp only [lb, List.mem_cons, List.not_mem_nil, or_false] at hi
  subst hi
  exact ⟨by decide, by decide, by decide, by decide, by decide, by decide⟩
theorem go_a : go la 0 256 c00 [] = (⟨0, 5, 0, 0, 0, 0, 0, 0, 1⟩, [], 1, 0) := rfl
theorem go_b : ∀ n, go lb 0 n c00 [] = (c00, [], -1, 11)
  | 0 => rfl
  | n + 1 => by
    rw [go_on lb 0 n c00 [] (by decide) (by decide) (by decide) (by decide)]
    exact go_b n

theorem blocks2 (w : World) (a b : Obj) : ((w.alloc a).alloc b).heap[w.heap.size + 1]? = some b := by
  have s1 : (w.alloc a).heap.size = w.heap.size + 1 := by simp
  have := blk_new (w.alloc a) b
  rwa [s1] at this
theorem run_a (w : World) (g : Nat) (h : w.heap[g]? = some (.cells cellsA 27 (0, 0))) :
    Calls Try.prog 16 #[.agg #[.int .u32 0, .int .u32 0, .int .u32 0, .int .u32 0, .int .u32 0, .int .u32 0, .int .u32 0, .int .u32 0, .int .i64 0], .agg #[.slice (some ⟨g, 0, none⟩) 2 2, .int .i64 0, .int .i64 0], .int .i64 0] w fun e w' => ∃ v : Value, e = .returned (.tuple #[.agg #[.int .u32 0, .int .u32 5, .int .u32 0, .int .u32 0, .int .u32 0, .int .u32 0, .int .u32 0, .int .u32 0, .int .i64 1], v, .int .i64 1, .int .i64 0]) ∧ Kd.R (Kd.int .i64) 3 w' w.heap.size (fun _ => True) v [] ∧ Below w.heap.size w w' :=
  run_calls c00 c00_ok 0 (by decide) (by decide) (some ⟨g, 0, none⟩) 2 la 0 0 w (reads_a h) (by decide) (by decide) la_ok _ go_a
theorem run_b (w : World) (g : Nat) (h : w.heap[g]? = some (.cells cellsB 27 (0, 0))) :
    Calls Try.prog 16 #[.agg #[.int .u32 0, .int .u32 0, .int .u32 0, .int .u32 0, .int .u32 0, .int .u32 0, .int .u32 0, .int .u32 0, .int .i64 0], .agg #[.slice (some ⟨g, 0, none⟩) 1 1, .int .i64 0, .int .i64 0], .int .i64 0] w fun e w' => ∃ v : Value, e = .returned (.tuple #[.agg #[.int .u32 0, .int .u32 0, .int .u32 0, .int .u32 0, .int .u32 0, .int .u32 0, .int .u32 0, .int .u32 0, .int .i64 0], v, .int .i64 (-1), .int .i64 11]) ∧ Kd.R (Kd.int .i64) 3 w' w.heap.size (fun _ => True) v [] ∧ Below w.heap.size w w' :=
  run_calls c00 c00_ok 0 (by decide) (by decide) (some ⟨g, 0, none⟩) 1 lb 0 0 w (reads_b h) (by decide) (by decide) lb_ok _ (go_b 256)

set_option maxHeartbeats 4000000 in
set_option maxRecDepth 100000 in
theorem awake_calls (w : World) : Calls Try.prog 10 #[] w fun e w' => e = .returned (.bool true) ∧ Below w.heap.size w w' := by
  go_enter Try.func10, Try.ntmps10
  go_wp2_with fail
  refine (run_a _ _ (blk_new w (.cells cellsA 27))).mono ?_
  rintro e w1 ⟨v1, rfl, hR, hb⟩
  obtain ⟨A1, n1, rfl⟩ := Kd.R_slice hR
  have HB1 := Aside0.mk (below_step (below_alloc (Below.refl w.heap.size w) _) hb)
  clear hR hb
  go_wp2_with fail
  refine (run_b _ (w1.heap.size + 1) (blocks2 w1 _ (.cells cellsB 27))).mono ?_
  rintro e w2 ⟨v2, rfl, hR, hb⟩
  have B1 := blk_below (blk_alloc (blk_new w1 (.cells #[.int .u32 0, .int .u32 5, .int .u32 0, .int .u32 0, .int .u32 0, .int .u32 0, .int .u32 0, .int .u32 0, .int .i64 1] 25)) _) hb
  have c1 : w2.cell? ⟨w1.heap.size, 1, none⟩ = some (.int .u32 5) := (blk_cell B1 1).trans rfl
  have c8 : w2.cell? ⟨w1.heap.size, 8, none⟩ = some (.int .i64 1) := (blk_cell B1 8).trans rfl
  have z1 : w1.heap.size < w2.heap.size := blk_lt B1
  clear B1
  obtain ⟨A2, n2, rfl⟩ := Kd.R_slice hR
  have HB2 := Aside0.mk hb
  clear hR hb
  go_wp2
  go_ret
  exact ⟨rfl, by repeat (first | exact below_step (by repeat (first | exact HB1.out | apply below_alloc)) HB2.out | apply below_alloc | apply pw_below_drewN)⟩
end Go.Proofs.Ytobjjmdaleoblaa.Co
