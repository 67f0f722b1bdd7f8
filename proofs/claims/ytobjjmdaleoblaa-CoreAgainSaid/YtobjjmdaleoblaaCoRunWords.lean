/- Words of the walks of Run: nine cells written, three blocks made; 'go', what a run comes to. -/
import Derived.Test.YtobjjmdaleoblaaCoStep
namespace Go.Proofs.Ytobjjmdaleoblaa.Co
open Go.RowKit Go.Proofs.YtobjjmdaleoblaaW.PrintWords Go.Proofs.YtobjjmdaleoblaaW.PrintLast Go.Proofs.YtobjjmdaleoblaaW.PrintMore Go.Proofs.Ytobjjmdaleoblaa.PCoreRuns
attribute [local go_sem] max2_int min2_int max_two min_two max_three min_three max_four min_four
set_option linter.unusedVariables false
set_option linter.unusedSimpArgs false

/-- Nine cells of a block, written one behind the other. -/
def put9 (W : World) (g : Nat) (x0 x1 x2 x3 x4 x5 x6 x7 x8 : Value) : World := (((((((((W.setCell ⟨g, 0, none⟩ x0).setCell ⟨g, 1, none⟩ x1).setCell ⟨g, 2, none⟩ x2).setCell ⟨g, 3, none⟩ x3).setCell ⟨g, 4, none⟩ x4).setCell ⟨g, 5, none⟩ x5).setCell ⟨g, 6, none⟩ x6).setCell ⟨g, 7, none⟩ x7).setCell ⟨g, 8, none⟩ x8)
theorem put9_same {W : World} {g : Nat} {t : TypeId} {y0 y1 y2 y3 y4 y5 y6 y7 y8 : Value} (h : W.heap[g]? = some (.cells #[y0, y1, y2, y3, y4, y5, y6, y7, y8] t (0, 0))) (x0 x1 x2 x3 x4 x5 x6 x7 x8 : Value) : (put9 W g x0 x1 x2 x3 x4 x5 x6 x7 x8).heap[g]? = some (.cells #[x0, x1, x2, x3, x4, x5, x6, x7, x8] t (0, 0)) :=
  by
  have h0 : (W.setCell ⟨g, 0, none⟩ x0).heap[g]? = some (.cells #[x0, y1, y2, y3, y4, y5, y6, y7, y8] t (0, 0)) := blk_put h 0 x0 rfl
  have h1 : ((W.setCell ⟨g, 0, none⟩ x0).setCell ⟨g, 1, none⟩ x1).heap[g]? = some (.cells #[x0, x1, y2, y3, y4, y5, y6, y7, y8] t (0, 0)) := blk_put h0 1 x1 rfl
  have h2 : (((W.setCell ⟨g, 0, none⟩ x0).setCell ⟨g, 1, none⟩ x1).setCell ⟨g, 2, none⟩ x2).heap[g]? = some (.cells #[x0, x1, x2, y3, y4, y5, y6, y7, y8] t (0, 0)) := blk_put h1 2 x2 rfl
  have h3 : ((((W.setCell ⟨g, 0, none⟩ x0).setCell ⟨g, 1, none⟩ x1).setCell ⟨g, 2, none⟩ x2).setCell ⟨g, 3, none⟩ x3).heap[g]? = some (.cells #[x0, x1, x2, x3, y4, y5, y6, y7, y8] t (0, 0)) := blk_put h2 3 x3 rfl
  have h4 : (((((W.setCell ⟨g, 0, none⟩ x0).setCell ⟨g, 1, none⟩ x1).setCell ⟨g, 2, none⟩ x2).setCell ⟨g, 3, none⟩ x3).setCell ⟨g, 4, none⟩ x4).heap[g]? = some (.cells #[x0, x1, x2, x3, x4, y5, y6, y7, y8] t (0, 0)) := blk_put h3 4 x4 rfl
  have h5 : ((((((W.setCell ⟨g, 0, none⟩ x0).setCell ⟨g, 1, none⟩ x1).setCell ⟨g, 2, none⟩ x2).setCell ⟨g, 3, none⟩ x3).setCell ⟨g, 4, none⟩ x4).setCell ⟨g, 5, none⟩ x5).heap[g]? = some (.cells #[x0, x1, x2, x3, x4, x5, y6, y7, y8] t (0, 0)) := blk_put h4 5 x5 rfl
  have h6 : (((((((W.setCell ⟨g, 0, none⟩ x0).setCell ⟨g, 1, none⟩ x1).setCell ⟨g, 2, none⟩ x2).setCell ⟨g, 3, none⟩ x3).setCell ⟨g, 4, none⟩ x4).setCell ⟨g, 5, none⟩ x5).setCell ⟨g, 6, none⟩ x6).heap[g]? = some (.cells #[x0, x1, x2, x3, x4, x5, x6, y7, y8] t (0, 0)) := blk_put h5 6 x6 rfl
  have h7 : ((((((((W.setCell ⟨g, 0, none⟩ x0).setCell ⟨g, 1, none⟩ x1).setCell ⟨g, 2, none⟩ x2).setCell ⟨g, 3, none⟩ x3).setCell ⟨g, 4, none⟩ x4).setCell ⟨g, 5, none⟩ x5).setCell ⟨g, 6, none⟩ x6).setCell ⟨g, 7, none⟩ x7).heap[g]? = some (.cells #[x0, x1, x2, x3, x4, x5, x6, x7, y8] t (0, 0)) := blk_put h6 7 x7 rfl
  have h8 : (((((((((W.setCell ⟨g, 0, none⟩ x0).setCell ⟨g, 1, none⟩ x1).setCell ⟨g, 2, none⟩ x2).setCell ⟨g, 3, none⟩ x3).setCell ⟨g, 4, none⟩ x4).setCell ⟨g, 5, none⟩ x5).setCell ⟨g, 6, none⟩ x6).setCell ⟨g, 7, none⟩ x7).setCell ⟨g, 8, none⟩ x8).heap[g]? = some (.cells #[x0, x1, x2, x3, x4, x5, x6, x7, x8] t (0, 0)) := blk_put h7 8 x8 rfl
  exact h8
theorem put9_far {W : World} {g g' : Nat} {t : TypeId} {cs : Array Value} (h : W.heap[g']? = some (.cells cs t (0, 0))) (hne : g' ≠ g) (x0 x1 x2 x3 x4 x5 x6 x7 x8 : Value) : (put9 W g x0 x1 x2 x3 x4 x5 x6 x7 x8).heap[g']? = some (.cells cs t (0, 0)) :=
  (blk_far (blk_far (blk_far (blk_far (blk_far (blk_far (blk_far (blk_far (blk_far h hne x0) hne x1) hne x2) hne x3) hne x4) hne x5) hne x6) hne x7) hne x8)
theorem put9_below {w W : World} {g : Nat} (h : Below w.heap.size w W) (hg : w.heap.size ≤ g) (x0 x1 x2 x3 x4 x5 x6 x7 x8 : Value) : Below w.heap.size w (put9 W g x0 x1 x2 x3 x4 x5 x6 x7 x8) :=
  (below_set (v := x8) (below_set (v := x7) (below_set (v := x6) (below_set (v := x5) (below_set (v := x4) (below_set (v := x3) (below_set (v := x2) (below_set (v := x1) (below_set (v := x0) h hg) hg) hg) hg) hg) hg) hg) hg) hg)
theorem put9_R {α : Type} {d : Kd α} {e : Nat} {W : World} {base : Nat} {ok : Nat → Prop} {v : Value} {xs : List α} {g : Nat} (h : d.R e W base ok v xs) (hok : ∀ k, ok k → k ≠ g) (x0 x1 x2 x3 x4 x5 x6 x7 x8 : Value) : d.R e (put9 W g x0 x1 x2 x3 x4 x5 x6 x7 x8) base ok v xs :=
  (Kd.R_far (p := ⟨g, 8, none⟩) (Kd.R_far (p := ⟨g, 7, none⟩) (Kd.R_far (p := ⟨g, 6, none⟩) (Kd.R_far (p := ⟨g, 5, none⟩) (Kd.R_far (p := ⟨g, 4, none⟩) (Kd.R_far (p := ⟨g, 3, none⟩) (Kd.R_far (p := ⟨g, 2, none⟩) (Kd.R_far (p := ⟨g, 1, none⟩) (Kd.R_far (p := ⟨g, 0, none⟩) h hok x0) hok x1) hok x2) hok x3) hok x4) hok x5) hok x6) hok x7) hok x8)
theorem blocks3 (w : World) (a b c : Obj) : (((w.alloc a).alloc b).alloc c).heap[w.heap.size]? = some a ∧ (((w.alloc a).alloc b).alloc c).heap[w.heap.size + 1]? = some b ∧ (((w.alloc a).alloc b).alloc c).heap[w.heap.size + 1 + 1]? = some c := by
  have s1 : (w.alloc a).heap.size = w.heap.size + 1 := by simp
  have s2 : ((w.alloc a).alloc b).heap.size = w.heap.size + 1 + 1 := by simp
  refine ⟨blk_alloc (blk_alloc (blk_new w a) b) c, ?_, ?_⟩
  · have := blk_alloc (blk_new (w.alloc a) b) c
    rwa [s1] at this
  · have := blk_new ((w.alloc a).alloc b) c
    rwa [s2] at this
theorem cell_alloc_all {W : World} {a : Addr} {v : Value} (h : W.cell? a = some v) : ∀ o, (W.alloc o).cell? a = some v :=
  fun o => ((below_alloc (Below.refl W.heap.size W) o).cell (World.block_lt_of_cell? W a h)).trans h

/-- A core as it runs: at most n instructions more. -/
def go (l : List S27) (self : Int) : Nat → Cr → List Int → Cr × List Int × Int × Int
  | 0, c, ms => if 0 ≤ c.pc ∧ c.pc < l.length then (if 16 ≤ (rd_T27 l c.pc).f0 then (c, ms, -1, 0) else (c, ms, -1, 11)) else (c, ms, -1, 11)
  | n + 1, c, ms =>
    if 0 ≤ c.pc ∧ c.pc < l.length then
      if 16 ≤ (rd_T27 l c.pc).f0 then (c, ms, -1, 0)
      else if (rd_T27 l c.pc).f0 = 13 then (c, ms, (rd_T27 l c.pc).f6, 0)
      else go l self n (step c (rd_T27 l c.pc) self) (if (rd_T27 l c.pc).f0 = 12 then ms ++ [(rd_T27 l c.pc).f6] else ms)
    else (c, ms, -1, 11)
theorem go_out (l : List S27) (self : Int) (n : Nat) (c : Cr) (ms : List Int) (h : ¬ (0 ≤ c.pc ∧ c.pc < l.length)) : go l self n c ms = (c, ms, -1, 11) := by
  cases n <;> (unfold go; rw [if_neg h])
theorem go_mem (l : List S27) (self : Int) (n : Nat) (c : Cr) (ms : List Int) (h : 0 ≤ c.pc ∧ c.pc < l.length) (hm : 16 ≤ (rd_T27 l c.pc).f0) : go l self n c ms = (c, ms, -1, 0) := by
  cases n <;> (unfold go; rw [if_pos h, if_pos hm])
theorem go_much (l : List S27) (self : Int) (c : Cr) (ms : List Int) (h : 0 ≤ c.pc ∧ c.pc < l.length) (hm : ¬ 16 ≤ (rd_T27 l c.pc).f0) : go l self 0 c ms = (c, ms, -1, 11) := by
  unfold go; rw [if_pos h, if_neg hm]
theorem go_done (l : List S27) (self : Int) (n : Nat) (c : Cr) (ms : List Int) (h : 0 ≤ c.pc ∧ c.pc < l.length) (hd : (rd_T27 l c.pc).f0 = 13) : go l self (n + 1) c ms = (c, ms, (rd_T27 l c.pc).f6, 0) := by
  unfold go; rw [if_pos h, if_neg (by omega), if_pos hd]
theorem go_mark (l : List S27) (self : Int) (n : Nat) (c : Cr) (ms : List Int) (h : 0 ≤ c.pc ∧ c.pc < l.length) (hd : (rd_T27 l c.pc).f0 = 12) : go l self (n + 1) c ms = go l self n (step c (rd_T27 l c.pc) self) (ms ++ [(rd_T27 l c.pc).f6]) := by
  conv => lhs; unfold go
  rw [if_pos h, if_neg (by omega), if_neg (by omega), if_pos hd]
theorem go_on (l : List S27) (self : Int) (n : Nat) (c : Cr) (ms : List Int) (h : 0 ≤ c.pc ∧ c.pc < l.length) (hm : ¬ 16 ≤ (rd_T27 l c.pc).f0) (hd : ¬ (rd_T27 l c.pc).f0 = 13) (hk : ¬ (rd_T27 l c.pc).f0 = 12) : go l self (n + 1) c ms = go l self n (step c (rd_T27 l c.pc) self) ms := by
  conv => lhs; unfold go
  rw [if_pos h, if_neg hm, if_neg hd, if_neg hk]
/-- What a run comes to. -/
def RunPost (val : Cr → Value) (r : Cr × List Int × Int × Int) (w : World) (e : Ending) (w' : World) : Prop :=
  ∃ v, e = .returned (.tuple #[val r.1, v, .int .i64 r.2.2.1, .int .i64 r.2.2.2]) ∧ Kd.R (Kd.int .i64) 3 w' w.heap.size (fun _ => True) v r.2.1 ∧ Below w.heap.size w w'
theorem info3 : (Try.prog.info? 3).map (fun i => (i.zero, i.size, i.bytes)) = some (some (.int .i64 0), 1, 8) := by kernel_rfl
theorem rd_mem {l : List S27} {i : Int} (h0 : 0 ≤ i) (h1 : i < l.length) : rd_T27 l i ∈ l := by
  unfold rd_T27
  have : i.toNat < l.length := by omega
  rw [List.getD_eq_getElem?_getD, List.getElem?_eq_getElem this]
  exact List.getElem_mem this
theorem step_ok {c : Cr} (h : c.ok) {i : S27} (hi : okI i) {self : Int} (f0 : 0 ≤ self) (f1 : self < 64) : (step c i self).ok := by
  obtain ⟨s0, s1⟩ := Cr.get_ok h i.f2
  obtain ⟨t0, t1⟩ := Cr.get_ok h i.f3
  have hw : ∀ v, writes c i self = some v → 0 ≤ v ∧ v < 4294967296 := by
    intro v hv
    unfold writes at hv
    split at hv
    · cases hv; exact hi.k
    split at hv
    · cases hv; exact ⟨s0, s1⟩
    split at hv
    · cases hv; omega
    split at hv
    · cases hv
      obtain ⟨A, hA⟩ := Int.eq_ofNat_of_zero_le s0
      obtain ⟨B, hB⟩ := Int.eq_ofNat_of_zero_le hi.k.1
      have hk := hi.k
      rw [hA, hB, CoPlain.and_nat A B (by omega) (by omega)]
      have := Nat.and_lt_two_pow A (n := 32) (show B < 2 ^ 32 by omega)
      omega
    split at hv
    · cases hv; omega
    split at hv
    · cases hv
      have hp : (0 : Int) < 2 ^ i.f6.toNat := by rw [← p2_pow]; unfold p2; have := Nat.pow_pos (n := i.f6.toNat) (show 0 < 2 by decide); omega
      exact ⟨Int.ediv_nonneg s0 (by omega), Int.lt_of_le_of_lt (Int.ediv_le_self _ s0) s1⟩
    split at hv
    · cases hv
      obtain ⟨A, hA⟩ := Int.eq_ofNat_of_zero_le s0
      obtain ⟨B, hB⟩ := Int.eq_ofNat_of_zero_le t0
      rw [hA, hB, CoPlain.or_nat A B (by omega) (by omega)]
      have := Nat.or_lt_two_pow (n := 32) (show A < 2 ^ 32 by omega) (show B < 2 ^ 32 by omega)
      omega
    split at hv
    · cases hv; omega
    · cases hv
  unfold step
  split
  · exact h
  · split
    · rename_i v hv
      obtain ⟨v0, v1⟩ := hw v hv
      exact Cr.goto_ok (Cr.set_ok h _ v v0 v1) _
    · exact Cr.goto_ok h _
end Go.Proofs.Ytobjjmdaleoblaa.Co
