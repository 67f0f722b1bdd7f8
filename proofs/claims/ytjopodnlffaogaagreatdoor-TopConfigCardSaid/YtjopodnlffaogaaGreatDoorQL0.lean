/- A part of the proof of TopConfig: WWords, WLast, WMore, TpWords, TpSeven, TpAbs16, PTopConfigx0, TpRing, TpCell, TpAbs17, TpRange, Shelf, TpLines1, TpAbs18, TpAbs19, TpAbs20, TpClone, TpTexts, TpStr, TpCores. -/
import Derived.Test.YtjopodnlffaogaaGreatDoorQA0
import Derived.Below
import Derived.Deep.Draws
import Derived.Deep.AppendLies
import Derived.Maps.AppendAt
import Derived.OwnWalk
import Derived.Laws.BytesArg
import Derived.Laws.MakeOwn
import Derived.Laws.OwnMore
import Derived.Deep.OwnRows
import Derived.Tactics
import Derived.Lib.ConvBytes
import Derived.Laws.Slices
import Derived.WalkKit
import Derived.KernelRfl
import Derived.RowKit3
import Derived.Deep.LoopGhost
import Derived.Deep.QuietTactic
import Derived.BigQuiet
import Derived.WideLaws
import Derived.Deep.DeepCutAuto
import Derived.Deep.CutBlock
import Derived.Deep.RegionHeld3
import Derived.Laws.Rows
import Derived.Lib.AppendStr
import Derived.ArgAppend
import Derived.Laws.IdiomCopy
import Derived.RowKit
import Derived.OrdersHeld
import Derived.Laws.BitsLemmas
import Derived.LoopN
import Derived.Test.YtjopodnlffaogaaGreatDoorProg
import Derived.Laws.StructEq
import Derived.Laws.LoneSync
import Derived.Lib.Builder
import Derived.RangeFuncNested
import Derived.RangeFuncCalls
import Derived.RangeFuncBound
import Derived.RangeFuncLeaves
import Derived.Shelf.Small.Strs
import Derived.Shelf.Strings.Builder1
import Derived.Shelf.LaysM
import Derived.Shelf.Strconv.Itoa3
import Derived.Shelf.Strings.Replace
import Derived.OwnWalkIn
import Derived.TacticsInMore
import Derived.LoopNIn
import Derived.LoopIn
import Derived.Shelf.RegionOpen
import Derived.Shelf.Abstract
import Derived.WalkSpells
section
set_option linter.unusedVariables false
set_option linter.unusedSimpArgs false
namespace Go.Proofs.YtjopodnlffaogaaGreatDoorW.PrintWords
open Go.RowKit
structure Aside0 (p : Prop) : Prop where mk :: (out : p)
structure Drawn0 (w w' : World) : Prop where mk :: (out : ∃ n, w' = w.drewN n)
theorem Drawn0.refl (w : World) : Drawn0 w w := ⟨⟨0, rfl⟩⟩
theorem Drawn0.below {w w' : World} (h : Drawn0 w w') : Below w.heap.size w w' := by
  obtain ⟨n, rfl⟩ := h
  induction n with
  | zero => exact Below.refl _ _
  | succ n ih => rw [← World.drew_drewN]; exact ih.drew
def rd (xs : List Int) (i : Int) : Int := xs.getD i.toNat 0
theorem below_alloc {w W : World} (h : Below w.heap.size w W) (o : Obj) : Below w.heap.size w (W.alloc o) := h.alloc h.size o
theorem below_drew {B : Nat} {w W : World} (h : Below B w W) : Below B w W.drew := ⟨h.os, h.tape, h.output, h.size, h.block⟩
theorem pw_below_drewN {B : Nat} {w W : World} (h : Below B w W) (n : Nat) : Below B w (W.drewN n) := ⟨h.os, h.tape, h.output, h.size, h.block⟩
theorem below_then {B : Nat} {w w1 w2 : World} (h : Below B w w1) (hB : B ≤ w1.heap.size) (k : Below w1.heap.size w1 w2) : Below B w w2 :=
  h.trans ⟨k.os, k.tape, k.output, k.size, fun i hi => k.block i (Nat.lt_of_lt_of_le hi hB)⟩
theorem pw_below_grown {B : Nat} {w w1 : World} (h : Below B w w1) (row : Option Nat) (hB : B ≤ w1.heap.size) {w2 : World} (hg : w1.grownBy w2 row) (hr : ∀ k, row = some k → B ≤ k) : Below B w w2 := h.grown hg hB hr
theorem pw_cell_below {w w1 : World} (h : Below w.heap.size w w1) {a : Addr} {v : Value} (hc : w.cell? a = some v) : w1.cell? a = some v := (h.cell (World.block_lt_of_cell? w a hc)).trans hc
def ReadsInt (w : World) (k : IntKind) (A : Option Addr) (n : Nat) (xs : List Int) : Prop :=
  xs.length = n ∧ n ≤ 9223372036854775807 ∧ (0 < n → ∃ ad, A = some ad ∧ ∀ j, j < n → w.cell? (ad.add j) = some (.int k (xs.getD j 0)))
theorem ReadsInt.at_ {w : World} {k : IntKind} {A : Option Addr} {n : Nat} {xs : List Int} (h : ReadsInt w k A n xs) (i : Int) (h0 : 0 ≤ i) (h1 : i < n) : ∃ ad, A = some ad ∧ w.cell? (ad.add i.toNat) = some (.int k (rd xs i)) := by
  obtain ⟨ad, e, hc⟩ := h.2.2 (by omega)
  exact ⟨ad, e, hc _ (by omega)⟩
theorem own_nil (W : World) (base : Nat) (e : TypeId) (size : Nat) : W.ownsRow base e size (.slice none 0 0) 0 [] := ⟨by simp, .inl ⟨rfl, rfl⟩⟩
theorem own_base {w : World} {base : Nat} {e : TypeId} {size n : Nat} {v : Value} {xs : List Value} (h : w.ownsRow base e size v n xs) (k : Nat) (hk : v.ownBlock = some k) : base ≤ k := by
  rcases h.2 with ⟨rfl, _⟩ | ⟨g, cap, cur, rfl, hb, _⟩
  · simp [Value.ownBlock] at hk
  · have : g = k := by simpa [Value.ownBlock] using hk
    omega
theorem own_lt {w : World} {base : Nat} {e : TypeId} {size n : Nat} {v : Value} {xs : List Value} (h : w.ownsRow base e size v n xs) (k : Nat) (hk : v.ownBlock = some k) : k < w.heap.size := by
  rcases h.2 with ⟨rfl, _⟩ | ⟨g, cap, cur, rfl, hb, hh, _⟩
  · simp [Value.ownBlock] at hk
  · have : g = k := by simpa [Value.ownBlock] using hk
    subst this
    exact (Array.getElem?_eq_some_iff.1 hh).1
section
variable {P : Program} {ops : Array Oper} {rest : List Oper} {o : Oper} {a : Act} {Q : Exit → Act → World → Prop}
end
section
variable {P : Program}
end
section
variable {P : Program} {ops : Array Oper} {rest : List Oper} {o : Oper} {a : Act} {Q : Exit → Act → World → Prop}
end
def bytesOf (s : ByteArray) : List Int := s.data.toList.map fun b => (b.toNat : Int)
theorem bytes_below {B : Nat} {w W : World} (h : Below B w W) (hB : B ≤ W.heap.size) (e : TypeId) (s : ByteArray) : Below B w (Lib.bytesWorld W e s) :=
  h.trans ⟨rfl, rfl, rfl, by rw [Lib.bytesWorld_size]; omega, fun i hi => Lib.bytesWorld_at_old W e s i (by omega)⟩
def Reps {α : Type} (R : α → List Value → Prop) (size : Nat) (ps : List α) (cs : List Value) : Prop :=
  cs.length = ps.length * size ∧ ∀ j p, ps[j]? = some p → R p ((cs.drop (j * size)).take size)
theorem Reps.none {α : Type} (R : α → List Value → Prop) (size : Nat) : Reps R size [] [] := ⟨by simp, fun j p h => by simp at h⟩
theorem Reps.snoc {α : Type} {R : α → List Value → Prop} {size : Nat} {ps : List α} {cs c : List Value} {p : α} (h : Reps R size ps cs) (hp : R p c) (hc : c.length = size) : Reps R size (ps ++ [p]) (cs ++ c) := by
  refine ⟨by rw [List.length_append, h.1, hc, List.length_append, List.length_singleton, Nat.add_mul, Nat.one_mul], fun j q hq => ?_⟩
  rcases Nat.lt_or_ge j ps.length with hj | hj
  · rw [List.getElem?_append_left hj] at hq
    have h1 : j * size + size ≤ cs.length := by rw [h.1, ← Nat.succ_mul]; exact Nat.mul_le_mul_right _ hj
    have h2 := h.2 j q hq
    rw [List.drop_append_of_le_length (by omega), List.take_append_of_le_length (by rw [List.length_drop]; omega)]
    exact h2
  · have hj' : j = ps.length := by
      have := (List.getElem?_eq_some_iff.1 hq).1
      rw [List.length_append, List.length_singleton] at this
      omega
    subst hj'
    have hq' : p = q := by simpa using hq
    subst hq'
    rw [← h.1, List.drop_left, ← hc, List.take_length]
    exact hp
theorem Reps.imp_ {α : Type} {R R' : α → List Value → Prop} {size : Nat} {ps : List α} {cs : List Value} (h : Reps R size ps cs) (hR : ∀ p c, R p c → R' p c) : Reps R' size ps cs := ⟨h.1, fun j p hj => hR _ _ (h.2 j p hj)⟩
def ReadsRow {α : Type} (R : α → List Value → Prop) (size : Nat) (w : World) (A : Option Addr) (n : Nat) (ps : List α) : Prop :=
  ps.length = n ∧ n ≤ 9223372036854775807 ∧ (0 < n → ∃ ad, A = some ad ∧ ∀ j p, ps[j]? = some p → ∃ c, c.length = size ∧ R p c ∧ ∀ i u, c[i]? = some u → w.cell? (ad.add (j * size + i)) = some u)
theorem ReadsRow.get_ {α : Type} {R : α → List Value → Prop} {size : Nat} {w : World} {A : Option Addr} {n : Nat} {ps : List α} (h : ReadsRow R size w A n ps) (d : α) (i : Int) (h0 : 0 ≤ i) (h1 : i < n) :
    ∃ ad c, A = some ad ∧ c.length = size ∧ R (ps.getD i.toNat d) c ∧ ∀ j u, c[j]? = some u → w.cell? (ad.add (i.toNat * size + j)) = some u := by
  obtain ⟨ad, e, hc⟩ := h.2.2 (by omega)
  have hl : i.toNat < ps.length := by have := h.1; omega
  obtain ⟨c, hs, hr, hcell⟩ := hc i.toNat _ (List.getElem?_eq_getElem hl)
  refine ⟨ad, c, e, hs, ?_, hcell⟩
  rw [List.getD_eq_getElem?_getD, List.getElem?_eq_getElem hl]
  exact hr
theorem ReadsRow.imp_ {α : Type} {R R' : α → List Value → Prop} {size : Nat} {w w1 : World} {A : Option Addr} {n : Nat} {ps : List α} (h : ReadsRow R size w A n ps) (hb : Below w.heap.size w w1) (hR : ∀ p c, R p c → R' p c) : ReadsRow R' size w1 A n ps :=
  ⟨h.1, h.2.1, fun hn => by
    obtain ⟨ad, e, hc⟩ := h.2.2 hn
    refine ⟨ad, e, fun j p hj => ?_⟩
    obtain ⟨c, hs, hr, hcell⟩ := hc j p hj
    exact ⟨c, hs, hR _ _ hr, fun i u hu => pw_cell_below hb (hcell i u hu)⟩⟩
theorem own_reads_row {α : Type} {R : α → List Value → Prop} {w : World} {base n size : Nat} {e : TypeId} {v : Value} {ps : List α} {cs : List Value} (h : w.ownsRow base e size v n cs) (hR : Reps R size ps cs) (hn : ps.length = n) :
    ∃ A c, v = .slice A n c ∧ ReadsRow R size w A n ps := by
  rcases Nat.eq_zero_or_pos n with h0 | h0
  · rcases h.2 with ⟨rfl, rfl⟩ | ⟨g, cap, cur, rfl, _⟩
    · exact ⟨none, 0, rfl, hn, by omega, fun hp => absurd hp (by omega)⟩
    · exact ⟨_, cap, rfl, hn, by omega, fun hp => absurd hp (by omega)⟩
  · obtain ⟨g, cap, rfl, _, _⟩ := h.form h0
    have hm : n ≤ 9223372036854775807 := by
      rcases h.2 with ⟨_, h1⟩ | ⟨g', cap', cur, he, _, _, h1, h2, _⟩
      · omega
      · simp only [maxLen] at h2
        omega
    refine ⟨_, cap, rfl, hn, hm, fun _ => ⟨_, rfl, fun j p hj => ⟨(cs.drop (j * size)).take size, ?_, hR.2 j p hj, fun i u hu => ?_⟩⟩⟩
    · have hjl := (List.getElem?_eq_some_iff.1 hj).1
      have h1 : j * size + size ≤ cs.length := by rw [hR.1, ← Nat.succ_mul]; exact Nat.mul_le_mul_right _ hjl
      rw [List.length_take, List.length_drop]
      omega
    · refine h.cells (g := g) rfl _ u ?_
      rw [List.getElem?_take] at hu
      split at hu
      · rw [List.getElem?_drop] at hu
        exact hu
      · cases hu
theorem add_field (ad : Addr) (m j : Nat) (hj : 0 < j) : ad.add (m + j) = ⟨(ad.add m).block, (ad.add m).off + j, none⟩ := by
  unfold Addr.add
  by_cases hm : m = 0
  · subst hm
    simp [Nat.ne_of_gt hj]
  · simp [hm, Nat.add_assoc]
section
variable {P : Program} {ops : Array Oper} {rest : List Oper} {o : Oper} {a : Act} {Q : Exit → Act → World → Prop}
theorem print_append_cells {w0 W : World} (base : Nat) (hgd : o.guard = none) (s x : Operand) (t e : TypeId) (z : Value) (size bytes : Nat)
    (ho : o.op = .call { callee := .builtin .append, args := #[s, x], argTypes := #[t, t] })
    (ht : P.underlying t = some (.slice e)) (hinfo : (P.info? e).map (fun i => (i.zero, i.size, i.bytes)) = some (some z, size, bytes)) (hz : z.cells.size = size) (hs0 : 0 < size) (hb0 : 0 < bytes)
    (v : Value) (n : Nat) (xs ys : List Value) (hs : a.eval s = v) (hx : a.eval x = .slice (some ⟨W.heap.size, 0, none⟩) 1 1) (hys : ys.length = size) (h1 : ∀ u ∈ ys, u.oneCell' = true)
    (HO : W.ownsRow base e size v n xs) (HB : Below base w0 W) (hbase : base ≤ W.heap.size) (hl : (n + 1) * bytes ≤ 140737488355328)
    (h : ∀ v1 w1, w1.ownsRow base e size v1 (n + 1) (xs ++ ys) → Below base w0 w1 → W.grownBy w1 v.ownBlock → (v1.ownBlock = v.ownBlock ∨ ∃ b, v1.ownBlock = some b ∧ W.heap.size ≤ b) → wpList P ops Q rest (a.put o.dst v1) w1) :
    wpList P ops Q (o :: rest) a (W.alloc (.cells ys.toArray e)) := by
  obtain ⟨i0, hi, hzz⟩ := Option.map_eq_some_iff.1 hinfo
  simp only [Prod.mk.injEq] at hzz
  obtain ⟨hz0, hz1, hz2⟩ := hzz
  have hlen : n + 1 ≤ 140737488355328 := Nat.le_trans (Nat.le_mul_of_pos_right _ hb0) hl
  refine wpList_append_own_at (W.alloc (.cells ys.toArray e)) hgd s x t ho base e i0 z size bytes ht hi hz0 hz1 hz2 hz hs0 v n xs hs (HO.alloc _) ⟨W.heap.size, 0, none⟩ 1 1 ys hx (by rw [hys]; simp)
    (by simpa using World.news_of_block (cs := ys.toArray) (t := e) (fr := (0, 0)) (heap_alloc_new W (.cells ys.toArray e))) h1 (by simp only [maxLen]; omega) hl (by simp; omega) ?_
  intro v1 w1 hown hg _ hat
  refine h v1 w1 hown ((HB.alloc hbase _).grown hg (by simp; omega) (own_base HO)) (World.grownBy.trans (World.grownBy_alloc W _ _) hg) ?_
  rcases hat with hat | hat
  · exact .inl hat
  · exact .inr ⟨_, hat, by simp⟩
end
theorem blk_set {w : World} {g : Nat} {t : TypeId} {cs : Array Value} (h : w.heap[g]? = some (.cells cs t (0, 0))) (i : Nat) (u : Value) : (w.setCell ⟨g, i, none⟩ u).heap[g]? = some (.cells (cs.setIfInBounds i u) t (0, 0)) := by
  simp [World.setCell, Array.getElem?_modify, h]
theorem blk_far {w : World} {g : Nat} {t : TypeId} {cs : Array Value} (h : w.heap[g]? = some (.cells cs t (0, 0))) {p : Addr} (hp : g ≠ p.block) (u : Value) : (w.setCell p u).heap[g]? = some (.cells cs t (0, 0)) := (Below.heap_setCell w p u g hp).trans h
theorem blk_lt {w : World} {g : Nat} {o : Obj} (h : w.heap[g]? = some o) : g < w.heap.size := (Array.getElem?_eq_some_iff.1 h).1
theorem blk_cell {w : World} {g : Nat} {t : TypeId} {cs : Array Value} (h : w.heap[g]? = some (.cells cs t (0, 0))) (i : Nat) : w.cell? ⟨g, i, none⟩ = cs[i]? := cell_of_row w g i cs t (0, 0) h
theorem blk_frozen {w : World} {g : Nat} {t : TypeId} {cs : Array Value} (h : w.heap[g]? = some (.cells cs t (0, 0))) (i : Nat) : w.frozen? ⟨g, i, none⟩ = false := by simp [World.frozen?, h]
theorem blk_grown {w w1 : World} {g : Nat} {o : Obj} {row : Option Nat} (h : w.heap[g]? = some o) (hg : w.grownBy w1 row) (hne : some g ≠ row) : w1.heap[g]? = some o := (hg.block g (blk_lt h) hne).trans h
theorem blk_ne {w : World} {g g' : Nat} {t t' : TypeId} {cs cs' : Array Value} (h : w.heap[g]? = some (.cells cs t (0, 0))) (h' : w.heap[g']? = some (.cells cs' t' (0, 0))) (hne : t ≠ t') : g ≠ g' := by
  rintro rfl
  rw [h] at h'
  injection h' with h'
  injection h' with _ ht
  exact hne ht
def KeepBut (w w' : World) (g : Nat) (row : Option Nat) : Prop := w.heap.size ≤ w'.heap.size ∧ ∀ i, i < w.heap.size → i ≠ g → some i ≠ row → w'.heap[i]? = w.heap[i]?
theorem KeepBut.trans {w w1 w2 : World} {g : Nat} {row row1 : Option Nat} (h : KeepBut w w1 g row) (k : KeepBut w1 w2 g row1) (hr : row1 = row ∨ ∃ b, row1 = some b ∧ w.heap.size ≤ b) : KeepBut w w2 g row :=
  ⟨Nat.le_trans h.1 k.1, fun i hi hg hn => by
    refine (k.2 i (Nat.lt_of_lt_of_le hi h.1) hg ?_).trans (h.2 i hi hg hn)
    rcases hr with rfl | ⟨b, rfl, hb⟩
    · exact hn
    · intro e
      injection e with e
      omega⟩
section
variable {P : Program} {ops : Array Oper} {o : Oper} {a : Act} {Q : Exit → Act → World → Prop} {K : Act → World → Prop}
theorem step_append_cells {w0 W : World} (base : Nat) (hw : Region.wanted o (yielded ops a.tmps) = true) (s x : Operand) (t e : TypeId) (z : Value) (size bytes : Nat)
    (ho : o.op = .call { callee := .builtin .append, args := #[s, x], argTypes := #[t, t] })
    (ht : P.underlying t = some (.slice e)) (hinfo : (P.info? e).map (fun i => (i.zero, i.size, i.bytes)) = some (some z, size, bytes)) (hz : z.cells.size = size) (hs0 : 0 < size) (hb0 : 0 < bytes)
    (v : Value) (n : Nat) (xs ys : List Value) (hs : a.eval s = v) (hx : a.eval x = .slice (some ⟨W.heap.size, 0, none⟩) 1 1) (hys : ys.length = size) (h1 : ∀ u ∈ ys, u.oneCell' = true)
    (HO : W.ownsRow base e size v n xs) (HB : Below base w0 W) (hbase : base ≤ W.heap.size) (hl : (n + 1) * bytes ≤ 140737488355328)
    (h : ∀ v1 w1, w1.ownsRow base e size v1 (n + 1) (xs ++ ys) → Below base w0 w1 → W.grownBy w1 v.ownBlock → (v1.ownBlock = v.ownBlock ∨ ∃ b, v1.ownBlock = some b ∧ W.heap.size ≤ b) → K (a.put o.dst v1) w1) :
    if Region.wanted o (yielded ops a.tmps) = true then Oper.wp P o a (W.alloc (.cells ys.toArray e)) K Q else K (a.put o.dst undef) (W.alloc (.cells ys.toArray e)) := by
  obtain ⟨i0, hi, hzz⟩ := Option.map_eq_some_iff.1 hinfo
  simp only [Prod.mk.injEq] at hzz
  obtain ⟨hz0, hz1, hz2⟩ := hzz
  have hlen : n + 1 ≤ 140737488355328 := Nat.le_trans (Nat.le_mul_of_pos_right _ hb0) hl
  rw [if_pos hw]
  obtain ⟨v1, w1, hr, hown, hg, _, hat⟩ := run_append_own_at (P := P) (W.alloc (.cells ys.toArray e)) base t o.type e i0 z size bytes ht hi hz0 hz1 hz2 hz hs0 v n xs (HO.alloc _) ⟨W.heap.size, 0, none⟩ 1 1 ys (by rw [hys]; simp)
    (by simpa using World.news_of_block (cs := ys.toArray) (t := e) (fr := (0, 0)) (heap_alloc_new W (.cells ys.toArray e))) h1 (by simp only [maxLen]; omega) hl (by simp; omega)
  unfold Oper.wp execOp
  simp only [ho, resolve, invoke, builtin, Sem.run_bind, Sem.run_pure, Result.andThen_ok, List.map_toArray, List.map_cons, List.map_nil, hs, hx, hr]
  refine h v1 w1 hown ((HB.alloc hbase _).grown hg (by simp; omega) (own_base HO)) (World.grownBy.trans (World.grownBy_alloc W _ _) hg) ?_
  rcases hat with hat | hat
  · exact .inl hat
  · exact .inr ⟨_, hat, by simp⟩
end
theorem own_weaken {w : World} {base base' : Nat} {e : TypeId} {size n : Nat} {v : Value} {xs : List Value} (h : w.ownsRow base e size v n xs) (hb : base' ≤ base) : w.ownsRow base' e size v n xs := by
  obtain ⟨h1, h2⟩ := h
  refine ⟨h1, ?_⟩
  rcases h2 with h2 | ⟨g, cap, cur, rfl, hg, r⟩
  · exact .inl h2
  · exact .inr ⟨g, cap, cur, rfl, Nat.le_trans hb hg, r⟩
section
variable {α : Type} {enc : α → Value} {d : α}
def rdOf (d : α) (xs : List α) (i : Int) : α := xs.getD i.toNat d
def ReadsOf (enc : α → Value) (d : α) (w : World) (A : Option Addr) (n : Nat) (xs : List α) : Prop :=
  xs.length = n ∧ n ≤ 9223372036854775807 ∧ (0 < n → ∃ ad, A = some ad ∧ ∀ j, j < n → w.cell? (ad.add j) = some (enc (xs.getD j d)))
theorem ReadsOf.at_ {w : World} {A : Option Addr} {n : Nat} {xs : List α} (h : ReadsOf enc d w A n xs) (i : Int) (h0 : 0 ≤ i) (h1 : i < n) : ∃ ad, A = some ad ∧ w.cell? (ad.add i.toNat) = some (enc (rdOf d xs i)) := by
  obtain ⟨ad, e, hc⟩ := h.2.2 (by omega)
  exact ⟨ad, e, hc _ (by omega)⟩
end
section
variable {α : Type} {P : Program} {ops : Array Oper} {rest : List Oper} {o : Oper} {a : Act} {Q : Exit → Act → World → Prop}
end
theorem blk_alloc {w : World} {g : Nat} {o : Obj} (h : w.heap[g]? = some o) (o' : Obj) : (w.alloc o').heap[g]? = some o := (Below.heap_alloc w o' g (blk_lt h)).trans h
theorem blk_below {w w1 : World} {g : Nat} {o : Obj} (h : w.heap[g]? = some o) (hb : Below w.heap.size w w1) : w1.heap[g]? = some o := (hb.block g (blk_lt h)).trans h
theorem blk_new (w : World) (o : Obj) : (w.alloc o).heap[w.heap.size]? = some o := heap_alloc_new w o
section
variable {P : Program}
end
theorem own_le {w : World} {base n m c size : Nat} {e : TypeId} {A : Option Addr} {xs : List Value} (h : w.ownsRow base e size (.slice A m c) n xs) : m ≤ c := by
  rcases h.2 with ⟨he, _⟩ | ⟨g, cap, cur, he, _, _, hnc, _⟩
  · injection he with _ h2 h3
    omega
  · injection he with _ h2 h3
    omega
def OwnRow {α : Type} (R : α → List Value → Prop) (e : TypeId) (size : Nat) (w : World) (base : Nat) (v : Value) (ps : List α) : Prop :=
  ∃ inner, w.ownsRow base e size v ps.length inner ∧ Reps R size ps inner
section
variable {α : Type} {R R' : α → List Value → Prop} {e : TypeId} {size : Nat} {w w1 : World} {base : Nat} {v : Value} {ps : List α}
theorem OwnRow.none_ (R : α → List Value → Prop) (e : TypeId) (size : Nat) (w : World) (base : Nat) : OwnRow R e size w base (.slice none 0 0) [] := ⟨[], own_nil _ _ _ _, Reps.none _ _⟩
theorem OwnRow.imp_ (h : OwnRow R e size w base v ps) (hR : ∀ p c, R p c → R' p c) : OwnRow R' e size w base v ps := by
  obtain ⟨inner, ho, hr⟩ := h
  exact ⟨inner, ho, hr.imp_ hR⟩
theorem OwnRow.reads (h : OwnRow R e size w base v ps) : ∃ A c, v = .slice A ps.length c ∧ ps.length ≤ c ∧ ReadsRow R size w A ps.length ps := by
  obtain ⟨inner, ho, hr⟩ := h
  obtain ⟨A, c, rfl, hrow⟩ := own_reads_row ho hr rfl
  exact ⟨A, c, rfl, own_le ho, hrow⟩
end
section
variable {P : Program} {ops : Array Oper} {rest : List Oper} {o : Oper} {a : Act} {Q : Exit → Act → World → Prop} {α : Type} {R : α → List Value → Prop}
end
section
variable {P : Program} {ops : Array Oper} {o : Oper} {a : Act} {Q : Exit → Act → World → Prop} {K : Act → World → Prop} {α : Type} {R : α → List Value → Prop}
end
theorem ReadsRow.inner_ {α : Type} {R : α → List Value → Prop} {size : Nat} {w : World} {ad : Addr} {n : Nat} {ps : List α} (h : ReadsRow R size w (some ad) n ps) :
    ∃ inner, Reps R size ps inner ∧ ∀ j u, inner[j]? = some u → w.cell? (ad.add j) = some u := by
  have key : ∀ m, m ≤ ps.length → ∃ inner, Reps R size (ps.take m) inner ∧ ∀ j u, inner[j]? = some u → w.cell? (ad.add j) = some u := by
    intro m
    induction m with
    | zero => exact fun _ => ⟨[], Reps.none _ _, fun j u hu => by simp at hu⟩
    | succ m ih =>
      intro hm
      obtain ⟨inner, hr, hc⟩ := ih (by omega)
      obtain ⟨ad', he, hcell⟩ := h.2.2 (by have := h.1; omega)
      injection he with he
      subst he
      obtain ⟨c, hcl, hp, hcc⟩ := hcell m _ (List.getElem?_eq_getElem (show m < ps.length by omega))
      refine ⟨inner ++ c, ?_, fun j u hu => ?_⟩
      · rw [List.take_succ_eq_append_getElem (show m < ps.length by omega)]
        exact hr.snoc hp hcl
      · have hil : inner.length = m * size := by rw [hr.1, List.length_take, Nat.min_eq_left (by omega)]
        rcases Nat.lt_or_ge j inner.length with hj | hj
        · rw [List.getElem?_append_left hj] at hu
          exact hc j u hu
        · rw [List.getElem?_append_right hj] at hu
          have := hcc (j - inner.length) u hu
          rwa [hil, Nat.add_sub_cancel' (by omega)] at this
  obtain ⟨inner, hr, hc⟩ := key ps.length (Nat.le_refl _)
  rw [List.take_length] at hr
  exact ⟨inner, hr, hc⟩
section
variable {α : Type} {P : Program}
end
section
variable {P : Program} {ops : Array Oper} {rest : List Oper} {o : Oper} {a : Act} {Q : Exit → Act → World → Prop}
end
structure Kd (α : Type) where
  sz : Nat
  E : List Nat
  K : World → α → List Value → Prop
  M : World → Nat → (Nat → Prop) → α → List Value → Prop
  K_len : ∀ {w x cs}, K w x cs → cs.length = sz
  K_one : ∀ {w x cs}, K w x cs → ∀ u ∈ cs, u.oneCell' = true
  K_below : ∀ {w w1 : World} {x cs}, Below w.heap.size w w1 → K w x cs → K w1 x cs
  K_of_M : ∀ {w base ok x cs}, M w base ok x cs → K w x cs
  M_mono : ∀ {w base ok ok' x cs}, (∀ k, ok k → ok' k) → M w base ok x cs → M w base ok' x cs
  M_bound : ∀ {w : World} {base ok x cs}, M w base ok x cs → M w base (fun k => ok k ∧ base ≤ k ∧ k < w.heap.size ∧ ∃ q, q ∈ E ∧ ∃ cells, w.heap[k]? = some (.cells cells q (0, 0))) x cs
  M_move : ∀ {w w1 : World} {base ok x cs}, (∀ k, ok k → w1.heap[k]? = w.heap[k]?) → M w base ok x cs → M w1 base ok x cs
  M_lower : ∀ {w base base' ok x cs}, base' ≤ base → M w base ok x cs → M w base' ok x cs
theorem own_move {w w1 : World} {base : Nat} {e : TypeId} {size n : Nat} {v : Value} {xs : List Value} (h : w.ownsRow base e size v n xs) (hm : ∀ k, v.ownBlock = some k → w1.heap[k]? = w.heap[k]?) : w1.ownsRow base e size v n xs := by
  obtain ⟨h1, h2⟩ := h
  refine ⟨h1, ?_⟩
  rcases h2 with h2 | ⟨g, cap, cur, rfl, hg, hh, r⟩
  · exact .inl h2
  · exact .inr ⟨g, cap, cur, rfl, hg, (hm g (by simp [Value.ownBlock])).trans hh, r⟩
theorem own_typed {w : World} {base : Nat} {e : TypeId} {size n : Nat} {v : Value} {xs : List Value} (h : w.ownsRow base e size v n xs) (k : Nat) (hk : v.ownBlock = some k) : ∃ cells, w.heap[k]? = some (.cells cells e (0, 0)) := by
  rcases h.2 with ⟨rfl, _⟩ | ⟨g, cap, cur, rfl, hg, hh, r⟩
  · simp [Value.ownBlock] at hk
  · have : g = k := by simpa [Value.ownBlock] using hk
    subst this
    exact ⟨cur, hh⟩
namespace Kd
def C {α : Type} (d : Kd α) (w : World) (A : Option Addr) (n : Nat) (xs : List α) : Prop := ReadsRow (d.K w) d.sz w A n xs
def R {α : Type} (d : Kd α) (e : Nat) (w : World) (base : Nat) (ok : Nat → Prop) (v : Value) (xs : List α) : Prop :=
  (∀ k, v.ownBlock = some k → ok k) ∧ OwnRow (d.M w base (fun k => ok k ∧ some k ≠ v.ownBlock)) e d.sz w base v xs
section
variable {α : Type} {d : Kd α} {e : Nat} {w w1 : World} {base : Nat} {ok ok' : Nat → Prop} {v : Value} {xs : List α}
theorem C_below {A : Option Addr} {n : Nat} (h : d.C w A n xs) (hb : Below w.heap.size w w1) : d.C w1 A n xs := ReadsRow.imp_ h hb (fun _ _ hp => d.K_below hb hp)
theorem R_nil (d : Kd α) (e : Nat) (w : World) (base : Nat) (ok : Nat → Prop) : d.R e w base ok (.slice none 0 0) [] := ⟨fun k hk => by simp [Value.ownBlock] at hk, OwnRow.none_ _ _ _ _ _⟩
theorem R_mono (h : d.R e w base ok v xs) (hok : ∀ k, ok k → ok' k) : d.R e w base ok' v xs := ⟨fun k hk => hok k (h.1 k hk), h.2.imp_ (fun _ _ hp => d.M_mono (fun k hk => ⟨hok k hk.1, hk.2⟩) hp)⟩
theorem R_bound (h : d.R e w base ok v xs) : d.R e w base (fun k => ok k ∧ base ≤ k ∧ k < w.heap.size ∧ ∃ q, q ∈ e :: d.E ∧ ∃ cells, w.heap[k]? = some (.cells cells q (0, 0))) v xs := by
  obtain ⟨h0, inner, ho, hr⟩ := h
  refine ⟨fun k hk => ?_, inner, ho, hr.imp_ (fun _ _ hp => d.M_mono (fun k hk => ?_) (d.M_bound hp))⟩
  · obtain ⟨cells, hc⟩ := own_typed ho k hk
    exact ⟨h0 k hk, own_base ho k hk, own_lt ho k hk, e, List.mem_cons_self, cells, hc⟩
  · obtain ⟨⟨h1, h2⟩, h3, h4, q, hq, hc⟩ := hk
    exact ⟨⟨h1, h3, h4, q, List.mem_cons_of_mem _ hq, hc⟩, h2⟩
theorem R_move (h : d.R e w base ok v xs) (hm : ∀ k, ok k → w1.heap[k]? = w.heap[k]?) : d.R e w1 base ok v xs := by
  obtain ⟨h0, inner, ho, hr⟩ := h
  exact ⟨h0, inner, own_move ho (fun k hk => hm k (h0 k hk)), hr.imp_ (fun _ _ hp => d.M_move (fun k hk => hm k hk.1) hp)⟩
theorem R_lower {base' : Nat} (h : d.R e w base ok v xs) (hb : base' ≤ base) : d.R e w base' ok v xs := by
  obtain ⟨h0, inner, ho, hr⟩ := h
  exact ⟨h0, inner, own_weaken ho hb, hr.imp_ (fun _ _ hp => d.M_lower hb hp)⟩
theorem R_step (h : d.R e w base ok v xs) (hm : ∀ k, ok k → k < w.heap.size → w1.heap[k]? = w.heap[k]?) : d.R e w1 base ok v xs :=
  R_mono (R_move (R_bound h) (fun k hk => hm k hk.1 hk.2.2.1)) (fun _ hk => hk.1)
theorem R_below (h : d.R e w base ok v xs) (hb : Below w.heap.size w w1) : d.R e w1 base ok v xs := R_step h (fun k _ hk => hb.block k hk)
theorem R_far (h : d.R e w base ok v xs) {p : Addr} (hok : ∀ k, ok k → k ≠ p.block) (u : Value) : d.R e (w.setCell p u) base ok v xs := R_step h (fun k ho _ => Below.heap_setCell w p u k (hok k ho))
theorem R_types (h : d.R e w base ok v xs) {g t : Nat} {cells : Array Value} (hb : w.heap[g]? = some (.cells cells t (0, 0))) (ht : ∀ q, q ∈ e :: d.E → q ≠ t) : d.R e w base (fun k => ok k ∧ k ≠ g) v xs :=
  R_mono (R_bound h) (fun k hk => ⟨hk.1, by
    obtain ⟨_, _, _, q, hq, cells', hc⟩ := hk
    rintro rfl
    rw [hc] at hb
    injection hb with hb
    injection hb with _ hb
    exact ht q hq hb⟩)
theorem R_set (h : d.R e w base ok v xs) {g t : Nat} {cells : Array Value} (hb : w.heap[g]? = some (.cells cells t (0, 0))) (ht : ∀ q, q ∈ e :: d.E → q ≠ t) (j : Nat) (u : Value) : d.R e (w.setCell ⟨g, j, none⟩ u) base ok v xs :=
  R_mono (R_far (p := ⟨g, j, none⟩) (R_types h hb ht) (fun _ hk => hk.2) u) (fun _ hk => hk.1)
theorem R_reads (h : d.R e w base ok v xs) : ∃ A c, v = .slice A xs.length c ∧ xs.length ≤ c ∧ d.C w A xs.length xs := by
  obtain ⟨A, c, he, hl, hr⟩ := OwnRow.reads h.2
  exact ⟨A, c, he, hl, hr.imp_ (Below.refl _ _) (fun _ _ hp => d.K_of_M hp)⟩
end
def scalar {α : Type} (enc : α → Value) (h1 : ∀ x, (enc x).oneCell' = true) : Kd α where
  sz := 1
  E := []
  K := fun _ x cs => cs = [enc x]
  M := fun _ _ _ x cs => cs = [enc x]
  K_len := fun h => by rw [h]; rfl
  K_one := fun h u hu => by
    rw [h] at hu
    rw [List.mem_singleton.1 hu]
    exact h1 _
  K_below := fun _ h => h
  K_of_M := fun h => h
  M_mono := fun _ h => h
  M_bound := fun h => h
  M_move := fun _ h => h
  M_lower := fun _ h => h
def int (k : IntKind) : Kd Int := scalar (Value.int k) (fun _ => rfl)
def pair {α β : Type} (a : Kd α) (b : Kd β) : Kd (α × β) where
  sz := a.sz + b.sz
  E := a.E ++ b.E
  K := fun w x cs => ∃ c0 c1, cs = c0 ++ c1 ∧ a.K w x.1 c0 ∧ b.K w x.2 c1
  M := fun w base ok x cs => ∃ c0 c1, cs = c0 ++ c1 ∧ a.M w base ok x.1 c0 ∧ b.M w base ok x.2 c1
  K_len := by
    rintro w x cs ⟨c0, c1, rfl, h0, h1⟩
    rw [List.length_append, a.K_len h0, b.K_len h1]
  K_one := by
    rintro w x cs ⟨c0, c1, rfl, h0, h1⟩ u hu
    rcases List.mem_append.1 hu with hu | hu
    · exact a.K_one h0 u hu
    · exact b.K_one h1 u hu
  K_below := by
    rintro w w1 x cs hb ⟨c0, c1, rfl, h0, h1⟩
    exact ⟨c0, c1, rfl, a.K_below hb h0, b.K_below hb h1⟩
  K_of_M := by
    rintro w base ok x cs ⟨c0, c1, rfl, h0, h1⟩
    exact ⟨c0, c1, rfl, a.K_of_M h0, b.K_of_M h1⟩
  M_mono := by
    rintro w base ok ok' x cs hok ⟨c0, c1, rfl, h0, h1⟩
    exact ⟨c0, c1, rfl, a.M_mono hok h0, b.M_mono hok h1⟩
  M_bound := by
    rintro w base ok x cs ⟨c0, c1, rfl, h0, h1⟩
    refine ⟨c0, c1, rfl, a.M_mono ?_ (a.M_bound h0), b.M_mono ?_ (b.M_bound h1)⟩
    · rintro k ⟨h2, h3, h4, q, hq, hc⟩
      exact ⟨h2, h3, h4, q, List.mem_append_left _ hq, hc⟩
    · rintro k ⟨h2, h3, h4, q, hq, hc⟩
      exact ⟨h2, h3, h4, q, List.mem_append_right _ hq, hc⟩
  M_move := by
    rintro w w1 base ok x cs hm ⟨c0, c1, rfl, h0, h1⟩
    exact ⟨c0, c1, rfl, a.M_move hm h0, b.M_move hm h1⟩
  M_lower := by
    rintro w base base' ok x cs hb ⟨c0, c1, rfl, h0, h1⟩
    exact ⟨c0, c1, rfl, a.M_lower hb h0, b.M_lower hb h1⟩
def iso {α β : Type} (d : Kd α) (f : β → α) : Kd β where
  sz := d.sz
  E := d.E
  K := fun w x cs => d.K w (f x) cs
  M := fun w base ok x cs => d.M w base ok (f x) cs
  K_len := d.K_len
  K_one := d.K_one
  K_below := d.K_below
  K_of_M := d.K_of_M
  M_mono := d.M_mono
  M_bound := d.M_bound
  M_move := d.M_move
  M_lower := d.M_lower
def bot {α : Type} (sz : Nat) (E : List Nat) : Kd α where
  sz := sz
  E := E
  K := fun _ _ _ => False
  M := fun _ _ _ _ _ => False
  K_len := fun h => h.elim
  K_one := fun h => h.elim
  K_below := fun _ h => h
  K_of_M := fun h => h
  M_mono := fun _ h => h
  M_bound := fun h => h
  M_move := fun _ h => h
  M_lower := fun _ h => h
def upto {α : Type} (F : Kd α → Kd α) (sz : Nat) (E : List Nat) : Nat → Kd α
  | 0 => bot sz E
  | n + 1 => F (upto F sz E n)
theorem C_get {α : Type} {d : Kd α} {w : World} {A : Option Addr} {n : Nat} {xs : List α} (h : d.C w A n xs) (z : α) (i : Int) (h0 : 0 ≤ i) (h1 : i < n) :
    ∃ ad c, A = some ad ∧ c.length = d.sz ∧ d.K w (xs.getD i.toNat z) c ∧ ∀ j u, c[j]? = some u → w.cell? (ad.add (i.toNat * d.sz + j)) = some u := ReadsRow.get_ h z i h0 h1
theorem R_appended {α : Type} {d : Kd α} {e base : Nat} {ok okp : Nat → Prop} {W w1 : World} {v v1 : Value} {xs : List α} {p : α} {inner cs : List Value} (h0 : ∀ k, v.ownBlock = some k → ok k) (hr : Reps (d.M W base (fun k => ok k ∧ some k ≠ v.ownBlock)) d.sz xs inner) (hp : d.M W base okp p cs) (hokp : ∀ k, okp k → ok k ∧ some k ≠ v.ownBlock) (hfresh : ∀ k, W.heap.size ≤ k → ok k)
    (hown : w1.ownsRow base e d.sz v1 (xs.length + 1) (inner ++ cs)) (hg : W.grownBy w1 v.ownBlock) (hat : v1.ownBlock = v.ownBlock ∨ ∃ b, v1.ownBlock = some b ∧ W.heap.size ≤ b) : d.R e w1 base ok v1 (xs ++ [p]) := by
  have hne : ∀ k, some k ≠ v.ownBlock → k < W.heap.size → some k ≠ v1.ownBlock := by
    intro k hk hlt
    rcases hat with hat | ⟨b, hb, hle⟩
    · rw [hat]; exact hk
    · rw [hb]
      intro he
      injection he with he
      omega
  have step : ∀ {q : α} {c : List Value} {o : Nat → Prop}, d.M W base o q c → (∀ k, o k → ok k ∧ some k ≠ v.ownBlock) → d.M w1 base (fun k => ok k ∧ some k ≠ v1.ownBlock) q c := by
    intro q c o hq ho
    have h1 := d.M_move (w1 := w1) (fun k hk => hg.block k hk.2.2.1 (ho k hk.1).2) (d.M_bound hq)
    exact d.M_mono (fun k hk => ⟨(ho k hk.1).1, hne k (ho k hk.1).2 hk.2.2.1⟩) h1
  refine ⟨fun k hk => ?_, inner ++ cs, by rw [List.length_append, List.length_singleton]; exact hown, ?_⟩
  · rcases hat with hat | ⟨b, hb, hle⟩
    · exact h0 k (hat ▸ hk)
    · rw [hb] at hk
      injection hk with hk
      exact hfresh k (by omega)
  · exact (hr.imp_ (fun _ _ hq => step hq (fun _ hk => hk))).snoc (step hp hokp) (d.K_len (d.K_of_M hp))
section
variable {P : Program} {ops : Array Oper} {rest : List Oper} {o : Oper} {a : Act} {Q : Exit → Act → World → Prop} {α : Type}
theorem R_append (d : Kd α) {w0 W : World} (base : Nat) (hgd : o.guard = none) (s x : Operand) (t e : TypeId) (z : Value) (bytes : Nat)
    (ho : o.op = .call { callee := .builtin .append, args := #[s, x], argTypes := #[t, t] })
    (ht : P.underlying t = some (.slice e)) (hinfo : (P.info? e).map (fun i => (i.zero, i.size, i.bytes)) = some (some z, d.sz, bytes)) (hz : z.cells.size = d.sz) (hs0 : 0 < d.sz) (hb0 : 0 < bytes)
    (v : Value) (xs : List α) (p : α) (cs : List Value) (ok okp : Nat → Prop) (hs : a.eval s = v) (hx : a.eval x = .slice (some ⟨W.heap.size, 0, none⟩) 1 1) (hp : d.M W base okp p cs) (hokp : ∀ k, okp k → ok k ∧ some k ≠ v.ownBlock) (hfresh : ∀ k, W.heap.size ≤ k → ok k)
    (HO : d.R e W base ok v xs) (HB : Below base w0 W) (hbase : base ≤ W.heap.size) (hl : (xs.length + 1) * bytes ≤ 140737488355328)
    (h : ∀ v1 w1, d.R e w1 base ok v1 (xs ++ [p]) → Below base w0 w1 → W.grownBy w1 v.ownBlock → (v1.ownBlock = v.ownBlock ∨ ∃ b, v1.ownBlock = some b ∧ W.heap.size ≤ b) → wpList P ops Q rest (a.put o.dst v1) w1) :
    wpList P ops Q (o :: rest) a (W.alloc (.cells cs.toArray e)) := by
  obtain ⟨h0, inner, hown, hr⟩ := HO
  refine print_append_cells base hgd s x t e z d.sz bytes ho ht hinfo hz hs0 hb0 v xs.length inner cs hs hx (d.K_len (d.K_of_M hp)) (d.K_one (d.K_of_M hp)) hown HB hbase hl ?_
  intro v1 w1 hown1 hb1 hg1 hat1
  exact h v1 w1 (R_appended h0 hr hp hokp hfresh hown1 hg1 hat1) hb1 hg1 hat1
end
section
variable {P : Program} {ops : Array Oper} {o : Oper} {a : Act} {Q : Exit → Act → World → Prop} {Kc : Act → World → Prop} {α : Type}
theorem R_append_step (d : Kd α) {w0 W : World} (base : Nat) (hw : Region.wanted o (yielded ops a.tmps) = true) (s x : Operand) (t e : TypeId) (z : Value) (bytes : Nat)
    (ho : o.op = .call { callee := .builtin .append, args := #[s, x], argTypes := #[t, t] })
    (ht : P.underlying t = some (.slice e)) (hinfo : (P.info? e).map (fun i => (i.zero, i.size, i.bytes)) = some (some z, d.sz, bytes)) (hz : z.cells.size = d.sz) (hs0 : 0 < d.sz) (hb0 : 0 < bytes)
    (v : Value) (xs : List α) (p : α) (cs : List Value) (ok okp : Nat → Prop) (hs : a.eval s = v) (hx : a.eval x = .slice (some ⟨W.heap.size, 0, none⟩) 1 1) (hp : d.M W base okp p cs) (hokp : ∀ k, okp k → ok k ∧ some k ≠ v.ownBlock) (hfresh : ∀ k, W.heap.size ≤ k → ok k)
    (HO : d.R e W base ok v xs) (HB : Below base w0 W) (hbase : base ≤ W.heap.size) (hl : (xs.length + 1) * bytes ≤ 140737488355328)
    (h : ∀ v1 w1, d.R e w1 base ok v1 (xs ++ [p]) → Below base w0 w1 → W.grownBy w1 v.ownBlock → (v1.ownBlock = v.ownBlock ∨ ∃ b, v1.ownBlock = some b ∧ W.heap.size ≤ b) → Kc (a.put o.dst v1) w1) :
    if Region.wanted o (yielded ops a.tmps) = true then Oper.wp P o a (W.alloc (.cells cs.toArray e)) Kc Q else Kc (a.put o.dst undef) (W.alloc (.cells cs.toArray e)) := by
  obtain ⟨h0, inner, hown, hr⟩ := HO
  refine step_append_cells base hw s x t e z d.sz bytes ho ht hinfo hz hs0 hb0 v xs.length inner cs hs hx (d.K_len (d.K_of_M hp)) (d.K_one (d.K_of_M hp)) hown HB hbase hl ?_
  intro v1 w1 hown1 hb1 hg1 hat1
  exact h v1 w1 (R_appended h0 hr hp hokp hfresh hown1 hg1 hat1) hb1 hg1 hat1
end
theorem reads_of_C {α : Type} {enc : α → Value} {d : α} {h1 : ∀ x, (enc x).oneCell' = true} {w : World} {A : Option Addr} {n : Nat} {xs : List α} (h : (scalar enc h1).C w A n xs) : ReadsOf enc d w A n xs := by
  refine ⟨h.1, h.2.1, fun hn => ?_⟩
  obtain ⟨ad, e, hc⟩ := h.2.2 hn
  refine ⟨ad, e, fun j hj => ?_⟩
  have hl : j < xs.length := by have := h.1; omega
  obtain ⟨c, _, hK, hcell⟩ := hc j _ (List.getElem?_eq_getElem hl)
  have hK' : c = [enc xs[j]] := hK
  subst hK'
  have := hcell 0 _ rfl
  simpa [scalar, List.getD_eq_getElem?_getD, List.getElem?_eq_getElem hl] using this
end Kd
namespace Kd
section
variable {α : Type} {F : Kd α → Kd α} {sz : Nat} {E : List Nat} {hs : ∀ n, (upto F sz E n).sz = sz} {hE : ∀ n q, q ∈ (upto F sz E n).E → q ∈ E}
end
end Kd
namespace Kd
end Kd
namespace Kd
section
variable {α β : Type} {d : Kd α} {d' : Kd β} {e e' : Nat} {w w1 W : World} {base b b' : Nat} {ok ok' okv oku : Nat → Prop} {v u : Value} {xs : List α} {ys : List β}
theorem R_alloc (h : d.R e w base ok v xs) (o : Obj) : d.R e (w.alloc o) base ok v xs := R_below h (below_alloc (Below.refl _ _) o)
theorem R_drew (h : d.R e w base ok v xs) : d.R e w.drew base ok v xs := R_below h (below_drew (Below.refl _ _))
theorem C_alloc {A : Option Addr} {n : Nat} (h : d.C w A n xs) (o : Obj) : d.C (w.alloc o) A n xs := C_below h (below_alloc (Below.refl _ _) o)
theorem C_drew {A : Option Addr} {n : Nat} (h : d.C w A n xs) : d.C w.drew A n xs := C_below h (below_drew (Below.refl _ _))
theorem R_reads' {A : Option Addr} {n c : Nat} (h : d.R e w base ok (.slice A n c) xs) : n = xs.length ∧ n ≤ c ∧ d.C w A xs.length xs := by
  obtain ⟨A', c', he, hl, hr⟩ := R_reads h
  injection he with h1 h2 h3
  subst h1
  exact ⟨h2, by omega, hr⟩
end
section
variable {w W : World} {A : Option Addr} {n : Nat}
theorem at_int {k : IntKind} {xs : List Int} (h : (Kd.int k).C w A n xs) (i : Int) (h0 : 0 ≤ i) (h1 : i < n) : ∃ ad, A = some ad ∧ w.cell? (ad.add i.toNat) = some (.int k (rd xs i)) :=
  ReadsOf.at_ (reads_of_C (enc := Value.int k) (d := (0 : Int)) (h1 := fun _ => rfl) h) i h0 h1
variable {α : Type} {enc : α → Value} {h1 : ∀ x, (enc x).oneCell' = true} {e base g cap : Nat} {ok : Nat → Prop} {xs : List α}
end
section
variable {P : Program} {ops : Array Oper} {rest : List Oper} {o : Oper} {a : Act} {Q : Exit → Act → World → Prop}
variable {α : Type}
end
end Kd
section
variable {P : Program}
end
section
variable {w w1 : World} {base n size : Nat} {e : TypeId} {v : Value} {xs : List Value}
end
section
variable {P : Program}
end
namespace Kd
section
variable {α : Type} {d : Kd α} {e : Nat} {w w1 W : World} {base : Nat} {ok ok' : Nat → Prop} {v : Value} {xs : List α}
end
section
variable {P : Program} {ops : Array Oper} {rest : List Oper} {o : Oper} {a : Act} {Q' : Exit → Act → World → Prop} {Kc : Act → World → Prop} {α : Type}
end
end Kd
namespace Kd
section
variable {α : Type} {d : Kd α} {e e' : Nat} {w w1 W : World} {base : Nat} {ok : Nat → Prop} {u v : Value} {xs : List α}
end
end Kd
namespace Kd
section
variable {α : Type} {d : Kd α} {e base g n cap : Nat} {ok okp : Nat → Prop} {W : World} {xs : List α}
end
end Kd
namespace Kd
section
variable {α : Type} {F : Kd α → Kd α} {sz : Nat} {E : List Nat} {hs : ∀ n, (upto F sz E n).sz = sz} {hE : ∀ n q, q ∈ (upto F sz E n).E → q ∈ E}
end
end Kd
namespace Kd
theorem reps_append {α : Type} {R : α → List Value → Prop} {size : Nat} {ps qs : List α} {cs ds : List Value} (h : Reps R size ps cs) (h' : Reps R size qs ds) : Reps R size (ps ++ qs) (cs ++ ds) := by
  refine ⟨by rw [List.length_append, List.length_append, h.1, h'.1, Nat.add_mul], fun j p hj => ?_⟩
  rcases Nat.lt_or_ge j ps.length with hlt | hge
  · rw [List.getElem?_append_left hlt] at hj
    have hle : j * size + size ≤ cs.length := by rw [h.1, ← Nat.succ_mul]; exact Nat.mul_le_mul_right _ hlt
    rw [List.drop_append_of_le_length (by omega), List.take_append_of_le_length (by rw [List.length_drop]; omega)]
    exact h.2 j p hj
  · rw [List.getElem?_append_right hge] at hj
    have h2 := h'.2 (j - ps.length) p hj
    have hle : ps.length * size ≤ j * size := Nat.mul_le_mul_right _ hge
    rw [List.drop_append, List.drop_eq_nil_of_le (by rw [h.1]; exact hle), List.nil_append, h.1, ← Nat.sub_mul]
    exact h2
section
variable {P : Program} {ops : Array Oper} {rest : List Oper} {o : Oper} {a : Act} {Q : Exit → Act → World → Prop} {α : Type}
theorem R_append_rows (d : Kd α) {Rr : α → List Value → Prop} {w0 W : World} (base : Nat) (hgd : o.guard = none) (s x : Operand) (t e : TypeId) (z : Value) (bytes : Nat)
    (ho : o.op = .call { callee := .builtin .append, args := #[s, x], argTypes := #[t, t] })
    (ht : P.underlying t = some (.slice e)) (hinfo : (P.info? e).map (fun i => (i.zero, i.size, i.bytes)) = some (some z, d.sz, bytes)) (hz : z.cells.size = d.sz) (hs0 : 0 < d.sz) (hb0 : 0 < bytes)
    (v : Value) (xs ys : List α) (A : Option Addr) (m c : Nat) (ok okp : Nat → Prop) (hs : a.eval s = v) (hx : a.eval x = .slice A m c)
    (HO : d.R e W base ok v xs) (HR : ReadsRow Rr d.sz W A m ys) (hKM : ∀ x cs, Rr x cs → d.M W base okp x cs) (hokp : ∀ k, okp k → ok k ∧ some k ≠ v.ownBlock) (hfresh : ∀ k, W.heap.size ≤ k → ok k)
    (HB : Below base w0 W) (hbase : base ≤ W.heap.size) (hl : (xs.length + m) * bytes ≤ 140737488355328)
    (h : ∀ v1 w1, d.R e w1 base ok v1 (xs ++ ys) → Below base w0 w1 → W.grownBy w1 v.ownBlock → (v1.ownBlock = v.ownBlock ∨ ∃ b, v1.ownBlock = some b ∧ W.heap.size ≤ b) → wpList P ops Q rest (a.put o.dst v1) w1) :
    wpList P ops Q (o :: rest) a W := by
  obtain ⟨i0, hi, hzz⟩ := Option.map_eq_some_iff.1 hinfo
  simp only [Prod.mk.injEq] at hzz
  obtain ⟨hz0, hz1, hz2⟩ := hzz
  have hm : ys.length = m := HR.1
  have hlen : xs.length + m ≤ 140737488355328 := Nat.le_trans (Nat.le_mul_of_pos_right _ hb0) hl
  obtain ⟨hok, inner, hown, hr⟩ := HO
  have hrun : ∃ v1 w1, (Builtin.append_ #[t, t] o.type #[v, .slice A m c]).run P W = .ok v1 w1 ∧ d.R e w1 base ok v1 (xs ++ ys) ∧ W.grownBy w1 v.ownBlock ∧ (v1.ownBlock = v.ownBlock ∨ ∃ b, v1.ownBlock = some b ∧ W.heap.size ≤ b) := by
    rcases A with _ | ad
    · have h0 : m = 0 := by
        rcases Nat.eq_zero_or_pos m with h0 | h0
        · exact h0
        · obtain ⟨ad, h, _⟩ := HR.2.2 h0
          cases h
      subst h0
      obtain rfl : ys = [] := List.eq_nil_of_length_eq_zero hm
      refine ⟨v, W, ?_, by rw [List.append_nil]; exact ⟨hok, inner, hown, hr⟩, World.grownBy.refl W _, .inl rfl⟩
      rcases hown.2 with ⟨rfl, hn⟩ | ⟨g, cap, cur, rfl, _, _, hnc, _⟩
      · simp [Builtin.append_, run_underlying ht, sizeOf, typeInfo, hi, Builtin.lenOf, Builtin.firstCells]
      · simp [Builtin.append_, run_underlying ht, sizeOf, typeInfo, hi, Builtin.lenOf, Builtin.firstCells, hnc, storeCells]
    · obtain ⟨news, hnr, hnc⟩ := ReadsRow.inner_ HR
      have hnM : Reps (d.M W base okp) d.sz ys news := hnr.imp_ (fun p c hp => hKM p c hp)
      have hone : ∀ u ∈ news, u.oneCell' = true := by
        intro u hu
        obtain ⟨q, hq, rfl⟩ := List.mem_iff_getElem.1 hu
        have hql : q / d.sz < ys.length := by
          rw [Nat.div_lt_iff_lt_mul hs0]
          rw [← hnM.1]
          exact hq
        have hc := hnM.2 (q / d.sz) _ (List.getElem?_eq_getElem hql)
        refine d.K_one (d.K_of_M hc) _ ?_
        rw [List.mem_iff_getElem?]
        refine ⟨q % d.sz, ?_⟩
        rw [List.getElem?_take, if_pos (Nat.mod_lt _ hs0), List.getElem?_drop, Nat.mul_comm, Nat.div_add_mod, List.getElem?_eq_getElem hq]
      obtain ⟨v1, w1, hrun, h2, hg, _, hat⟩ := run_append_own_at (P := P) W base t o.type e i0 z d.sz bytes ht hi hz0 hz1 hz2 hz hs0 v xs.length inner hown ad m c news (by rw [hnM.1, hm]) hnc hone (by simp only [maxLen]; omega) hl hbase
      have hat' : v1.ownBlock = v.ownBlock ∨ ∃ b, v1.ownBlock = some b ∧ W.heap.size ≤ b := by
        rcases hat with hat | hat
        · exact .inl hat
        · exact .inr ⟨_, hat, Nat.le_refl _⟩
      have hne : ∀ k, some k ≠ v.ownBlock → k < W.heap.size → some k ≠ v1.ownBlock := by
        intro k hk hlt
        rcases hat' with hat | ⟨b, hb, hle⟩
        · rw [hat]; exact hk
        · rw [hb]
          intro he
          injection he with he
          omega
      have step : ∀ {q : α} {c : List Value} {o : Nat → Prop}, d.M W base o q c → (∀ k, o k → ok k ∧ some k ≠ v.ownBlock) → d.M w1 base (fun k => ok k ∧ some k ≠ v1.ownBlock) q c := by
        intro q c o hq ho
        have h1 := d.M_move (w1 := w1) (fun k hk => hg.block k hk.2.2.1 (ho k hk.1).2) (d.M_bound hq)
        exact d.M_mono (fun k hk => ⟨(ho k hk.1).1, hne k (ho k hk.1).2 hk.2.2.1⟩) h1
      refine ⟨v1, w1, hrun, ⟨fun k hk => ?_, inner ++ news, by rw [List.length_append, hm]; exact h2, reps_append (hr.imp_ (fun _ _ hq => step hq (fun _ hk => hk))) (hnM.imp_ (fun _ _ hq => step hq hokp))⟩, hg, hat'⟩
      rcases hat' with hat | ⟨b, hb, hle⟩
      · exact hok k (hat ▸ hk)
      · rw [hb] at hk
        injection hk with hk
        exact hfresh k (by omega)
  obtain ⟨v1, w1, hr1, h1, hg, hat⟩ := hrun
  refine wpList_plain hgd fun K hK => ?_
  unfold Oper.wp execOp
  simp only [ho, resolve, invoke, builtin, Sem.run_bind, Sem.run_pure, Result.andThen_ok, List.map_toArray, List.map_cons, List.map_nil, hs, hx, hr1]
  exact hK _ _ (h v1 w1 h1 (HB.grown hg hbase (own_base hown)) hg hat)
end
end Kd
namespace Kd
section
variable {P : Program} {ops : Array Oper} {rest : List Oper} {o : Oper} {a : Act} {Q : Exit → Act → World → Prop} {α : Type}
end
end Kd
namespace Kd
section
variable {α : Type} {k : Kd α} {w : World} {A : Option Addr} {xs : List α} {m c : Nat}
end
end Kd
section
variable {P : Program}
end
theorem below_step {w W w2 : World} (h : Below w.heap.size w W) (k : Below W.heap.size W w2) : Below w.heap.size w w2 := below_then h h.size k
theorem below_set {w W : World} {g j : Nat} {v : Value} (h : Below w.heap.size w W) (hg : w.heap.size ≤ g) : Below w.heap.size w (W.setCell ⟨g, j, none⟩ v) := h.setCell hg _
namespace Kd
section
variable {α β : Type} {d : Kd α} {d' : Kd β} {e e' base base' n : Nat} {ok ok' : Nat → Prop} {w W w1 W1 : World} {v u : Value} {xs : List α} {ys : List β} {A : Option Addr} {c : Nat}
end
section
variable {α : Type} {enc : α → Value} {h1 : ∀ x, (enc x).oneCell' = true} {w W : World} {A : Option Addr} {n g : Nat} {xs : List α}
end
end Kd
namespace Kd
section
variable {α : Type} {d : Kd α} {e base g : Nat} {ok : Nat → Prop} {w w1 : World} {v : Value} {xs : List α} {o : Obj}
end
end Kd
section
variable {P : Program} {ops : Array Oper} {rest : List Oper} {o : Oper} {a : Act} {Q : Exit → Act → World → Prop}
end
namespace Kd
section
variable {α : Type} {enc : α → Value} {h1 : ∀ x, (enc x).oneCell' = true} {e base g n cap : Nat} {ok : Nat → Prop} {W : World} {xs : List α}
end
end Kd
section
variable {P : Program} {ops : Array Oper} {rest : List Oper} {o : Oper} {a : Act} {Q : Exit → Act → World → Prop}
end
namespace Kd
section
variable {α : Type} {enc : α → Value} {h1 : ∀ x, (enc x).oneCell' = true} {e base g n cap : Nat} {ok : Nat → Prop} {W : World} {xs : List α}
end
end Kd
section
variable {P : Program} {ops : Array Oper} {rest : List Oper} {o : Oper} {a : Act} {Q : Exit → Act → World → Prop} {W : World}
end
section
variable {P : Program} {ops : Array Oper} {o : Oper} {a : Act} {Q : Exit → Act → World → Prop} {Kc : Act → World → Prop}
namespace Kd
variable {α : Type}
end Kd
end
section
variable {P : Program} {tmps : Array Value} {w : World}
end
namespace Kd
section
variable {P : Program} {α : Type}
end
section
variable {P : Program} {ops : Array Oper} {rest : List Oper} {o : Oper} {a : Act} {Q : Exit → Act → World → Prop} {Kc : Act → World → Prop} {α : Type}
end
end Kd
end Go.Proofs.YtjopodnlffaogaaGreatDoorW.PrintWords
end
section
namespace Go.Proofs.YtjopodnlffaogaaGreatDoorW.PrintLast
section
variable {P : Program} {ops : Array Oper} {Q : Exit → Act → World → Prop} {md : Region.Mode} {S : World → Prop} {ds : List Nat}
def Region.reachB (md : Region.Mode) (ops : Array Oper) (i : Nat) : Nat → Nat → Bool
  | 0, _ => false
  | fuel + 1, d => match ops[d]? with
    | some o => o.after.any fun e => Region.binds md e && (e.on == i || Region.reachB md ops i fuel e.on)
    | none => false
def Region.closedB (md : Region.Mode) (ops : Array Oper) (listed : Array Bool) : Bool :=
  (List.range ops.size).all fun j => !listed.getD j false || match ops[j]? with
    | some o => o.after.all fun e => !Region.binds md e || listed.getD e.on false
    | none => true
def Region.lastB (md : Region.Mode) (ops : Array Oper) (listed : Array Bool) (ds : List Nat) (i : Nat) : Bool :=
  ds.all fun d => listed.getD d true || Region.reachB md ops i ops.size d
def ListedClosed (md : Region.Mode) (ops : Array Oper) (listed : Array Bool) : Prop :=
  ∀ j oj, ops[j]? = some oj → listed.getD j false = true → ∀ e ∈ oj.after, Region.binds md e = true → listed.getD e.on false = true
theorem Region.closedB_spec {listed : Array Bool} (h : Region.closedB md ops listed = true) : ListedClosed md ops listed := by
  intro j oj hj hl e he hb
  have hlt : j < ops.size := (Array.getElem?_eq_some_iff.1 hj).1
  have h1 := List.all_eq_true.1 h j (List.mem_range.2 hlt)
  simp only [hl, hj, Bool.not_true, Bool.false_or] at h1
  have h2 := Array.all_eq_true_iff_forall_mem.1 h1 e he
  simpa [hb] using h2
theorem ListedClosed.set {listed : Array Bool} {i : Nat} (h : ListedClosed md ops listed) (hi : i ∈ Region.ready md ops listed) : ListedClosed md ops (listed.setIfInBounds i true) := by
  obtain ⟨_, oi, hoi, hall⟩ := mem_ready.1 hi
  intro j oj hj hl e he hb
  by_cases hij : i = j
  · subst hij
    have : oj = oi := Option.some.inj (hj.symm.trans hoi)
    subst this
    exact getD_set_true (hall e he hb)
  · rw [getD_set_ne false hij] at hl
    exact getD_set_true (h j oj hj hl e he hb)
theorem Region.reach_listed {listed : Array Bool} {i : Nat} (hc : ListedClosed md ops listed) : ∀ (fuel d : Nat), Region.reachB md ops i fuel d = true → listed.getD d false = true → listed.getD i false = true
  | 0, _, h, _ => by simp [Region.reachB] at h
  | fuel + 1, d, h, hl => by
    unfold Region.reachB at h
    cases ho : ops[d]? with
    | none => rw [ho] at h; simp at h
    | some o =>
      rw [ho] at h
      obtain ⟨e, he, h1⟩ := Array.any_eq_true'.1 h
      simp only [Bool.and_eq_true, Bool.or_eq_true, beq_iff_eq] at h1
      have hle := hc d o ho hl e he h1.1
      rcases h1.2 with h2 | h2
      · rw [← h2]; exact hle
      · exact Region.reach_listed hc fuel e.on h2 hle
theorem Region.reach_not_ready {listed : Array Bool} {i d fuel : Nat} (hc : ListedClosed md ops listed) (hr : Region.reachB md ops i fuel d = true) (hun : listed.getD i true = false) : d ∉ Region.ready md ops listed := by
  intro hd
  obtain ⟨_, o, ho, hall⟩ := mem_ready.1 hd
  have hi : listed.getD i false = true := by
    cases fuel with
    | zero => simp [Region.reachB] at hr
    | succ n =>
      unfold Region.reachB at hr
      rw [ho] at hr
      obtain ⟨e, he, h1⟩ := Array.any_eq_true'.1 hr
      simp only [Bool.and_eq_true, Bool.or_eq_true, beq_iff_eq] at h1
      have hle := hall e he h1.1
      rcases h1.2 with h2 | h2
      · rw [← h2]; exact hle
      · exact Region.reach_listed hc n e.on h2 hle
  rcases Nat.lt_or_ge i listed.size with h' | h'
  · simp [h'] at hun hi
    rw [hun] at hi
    cases hi
  · simp [Array.getElem?_eq_none h'] at hun
def wpAnyLast (P : Program) (md : Region.Mode) (ops : Array Oper) (Q : Exit → Act → World → Prop) (S : World → Prop) (ds : List Nat) : Nat → Array Bool → Act → World → Prop
  | 0, listed, a, w => Region.ready md ops listed = [] ∧ Q .normal a w
  | fuel + 1, listed, a, w =>
    (Region.ready md ops listed = [] → Q .normal a w) ∧
    ∀ i ∈ Region.ready md ops listed, wpOp P ops Q i (fun a' w' => (i ∉ ds → S w → S w') ∧ wpAnyLast P md ops Q S ds fuel (listed.setIfInBounds i true) a' w') a w
theorem wpAny_of_last : ∀ (fuel : Nat) (listed : Array Bool) (a : Act) (w : World), wpAnyLast P md ops Q S ds fuel listed a w → wpAny P md ops Q fuel listed a w
  | 0, _, _, _, h => h
  | fuel + 1, _, _, _, h => ⟨h.1, fun i hi => wpOp_mono (fun a' w' h' => wpAny_of_last fuel _ a' w' h'.2) (h.2 i hi)⟩
theorem wpAnyLast_first {i : Nat} {oi : Oper} {v : Value} (hi : ops[i]? = some oi) (hsel : ∀ (j : Nat) (o : Oper) cs b, ops[j]? = some o → o.op ≠ .select cs b)
    (hQ : ∀ c a w, Q (.panic c) (a.put oi.dst v) w → Q (.panic c) a w) (n : Nat) :
    ∀ (fuel : Nat) (listed : Array Bool) (a : Act) (w : World),
      (∀ j oj, ops[j]? = some oj → j ≠ i → listed.getD j true = false → (∀ e ∈ oj.after, Region.binds md e = true → e.on ≠ i) → oi.apart ops oj = true) →
      ListedClosed md ops listed → (∀ d ∈ ds, listed.getD d true = false → Region.reachB md ops i n d = true) →
      i ∈ Region.ready md ops listed → YieldsIf P ops S oi v a → S w →
      wpAnyLast P md ops Q S ds fuel (listed.setIfInBounds i true) (a.put oi.dst v) w → wpAnyLast P md ops Q S ds (fuel + 1) listed a w := by
  intro fuel
  induction fuel with
  | zero =>
    intro listed a w _ _ _ hr hy hS H
    refine ⟨fun h => (by rw [h] at hr; cases hr), fun j hj => ?_⟩
    by_cases hji : j = i
    · subst hji; exact hy.wpOp hi hS ⟨fun _ h => h, H⟩
    · have := ready_mono hj hji
      rw [H.1] at this
      cases this
  | succ fuel ih =>
    intro listed a w hfree hc hd hr hy hS H
    refine ⟨fun h => (by rw [h] at hr; cases hr), fun j hj => ?_⟩
    by_cases hji : j = i
    · subst hji; exact hy.wpOp hi hS ⟨fun _ h => h, H⟩
    · have h1 := H.2 j (ready_mono hj hji)
      obtain ⟨hjun, oj, hoj, hall⟩ := mem_ready.1 hj
      have hiun := (mem_ready.1 hr).1
      have hnot : ∀ e ∈ oj.after, Region.binds md e = true → e.on ≠ i := fun e he hb heq => by
        have h1 := hall e he hb
        rw [heq] at h1
        rcases Nat.lt_or_ge i listed.size with h' | h'
        · simp [h'] at hiun h1; rw [hiun] at h1; cases h1
        · simp [Array.getElem?_eq_none h'] at h1
      have hjd : j ∉ ds := fun hm => Region.reach_not_ready hc (hd j hm hjun) hiun hj
      have h2 := wpOp_putIf hoj (hfree j oj hoj hji hjun hnot) (fun cs b => hsel i oi cs b hi) (fun cs b => hsel j oj cs b hoj) hQ hy h1
      have hfree' : ∀ k ok, ops[k]? = some ok → k ≠ i → (listed.setIfInBounds j true).getD k true = false →
          (∀ e ∈ ok.after, Region.binds md e = true → e.on ≠ i) → oi.apart ops ok = true := fun k ok hk hki hun hno => by
        refine hfree k ok hk hki ?_ hno
        by_cases hjk : j = k
        · subst hjk; exact hjun
        · rw [getD_set_ne true hjk] at hun; exact hun
      have hd' : ∀ d ∈ ds, (listed.setIfInBounds j true).getD d true = false → Region.reachB md ops i n d = true := fun d hm hun => by
        refine hd d hm ?_
        by_cases hjk : j = d
        · subst hjk; exact hjun
        · rw [getD_set_ne true hjk] at hun; exact hun
      refine wpOp_mono (fun a' w' h3 => ⟨h3.2.1, ih (listed.setIfInBounds j true) a' w' hfree' (hc.set hj) hd' (ready_mono hr (Ne.symm hji)) h3.1 (h3.2.1 hjd hS) ?_⟩) h2
      rw [Array.setIfInBounds_comm _ _ hji]
      exact h3.2.2
theorem wpAnyLast_any {i : Nat} {oi : Oper} {v : Value} (hi : ops[i]? = some oi) (hsel : ∀ (j : Nat) (o : Oper) cs b, ops[j]? = some o → o.op ≠ .select cs b)
    (hQ : ∀ c a w, Q (.panic c) (a.put oi.dst v) w → Q (.panic c) a w) :
    ∀ (fuel : Nat) (listed : Array Bool) (a : Act) (w : World),
      (∀ j oj, ops[j]? = some oj → j ≠ i → listed.getD j true = false → (∀ e ∈ oj.after, Region.binds md e = true → e.on ≠ i) → oi.apart ops oj = true) →
      i ∈ Region.ready md ops listed → Yields P ops oi v a →
      wpAnyLast P md ops Q S ds fuel (listed.setIfInBounds i true) (a.put oi.dst v) w → wpAnyLast P md ops Q S ds (fuel + 1) listed a w := by
  intro fuel
  induction fuel with
  | zero =>
    intro listed a w _ hr hy H
    refine ⟨fun h => (by rw [h] at hr; cases hr), fun j hj => ?_⟩
    by_cases hji : j = i
    · subst hji; exact (hy.yieldsIf (S := fun _ => True)).wpOp hi trivial ⟨fun _ h => h, H⟩
    · have := ready_mono hj hji
      rw [H.1] at this
      cases this
  | succ fuel ih =>
    intro listed a w hfree hr hy H
    refine ⟨fun h => (by rw [h] at hr; cases hr), fun j hj => ?_⟩
    by_cases hji : j = i
    · subst hji; exact (hy.yieldsIf (S := fun _ => True)).wpOp hi trivial ⟨fun _ h => h, H⟩
    · have h1 := H.2 j (ready_mono hj hji)
      obtain ⟨hjun, oj, hoj, hall⟩ := mem_ready.1 hj
      have hiun := (mem_ready.1 hr).1
      have hnot : ∀ e ∈ oj.after, Region.binds md e = true → e.on ≠ i := fun e he hb heq => by
        have h1 := hall e he hb
        rw [heq] at h1
        rcases Nat.lt_or_ge i listed.size with h' | h'
        · simp [h'] at hiun h1; rw [hiun] at h1; cases h1
        · simp [Array.getElem?_eq_none h'] at h1
      have h2 := wpOp_put hoj (hfree j oj hoj hji hjun hnot) (fun cs b => hsel i oi cs b hi) (fun cs b => hsel j oj cs b hoj) hQ hy h1
      have hfree' : ∀ k ok, ops[k]? = some ok → k ≠ i → (listed.setIfInBounds j true).getD k true = false →
          (∀ e ∈ ok.after, Region.binds md e = true → e.on ≠ i) → oi.apart ops ok = true := fun k ok hk hki hun hno => by
        refine hfree k ok hk hki ?_ hno
        by_cases hjk : j = k
        · subst hjk; exact hjun
        · rw [getD_set_ne true hjk] at hun; exact hun
      refine wpOp_mono (fun a' w' h3 => ⟨h3.2.1, ih (listed.setIfInBounds j true) a' w' hfree' (ready_mono hr (Ne.symm hji)) h3.1 ?_⟩) h2
      rw [Array.setIfInBounds_comm _ _ hji]
      exact h3.2.2
theorem wpAnyLast_take {i : Nat} {oi : Oper} {v : Value} {fuel : Nat} {listed : Array Bool} {a : Act} {w : World} (hi : ops[i]? = some oi)
    (hs : Region.noSelect ops = true) (hf : Region.free md ops listed i = true) (hr : (Region.ready md ops listed).contains i = true)
    (hc : Region.closedB md ops listed = true) (hl : Region.lastB md ops listed ds i = true)
    (hQ : ∀ c a w, Q (.panic c) (a.put oi.dst v) w → Q (.panic c) a w) (hy : YieldsIf P ops S oi v a) (hS : S w)
    (h : wpAnyLast P md ops Q S ds fuel (listed.setIfInBounds i true) (a.put oi.dst v) w) : wpAnyLast P md ops Q S ds (fuel + 1) listed a w :=
  wpAnyLast_first hi (Region.noSelect_spec hs) hQ ops.size fuel listed a w (Region.free_spec hi hf) (Region.closedB_spec hc)
    (fun d hm hun => by have := List.all_eq_true.1 hl d hm; rw [hun] at this; simpa using this) (by simpa using hr) hy hS h
theorem wpAnyLast_all {rs : List Nat} {fuel : Nat} {listed : Array Bool} {a : Act} {w : World} (hr : Region.ready md ops listed = rs) (hne : rs ≠ [])
    (h : ∀ i ∈ rs, wpOp P ops Q i (fun a' w' => (i ∉ ds → S w → S w') ∧ wpAnyLast P md ops Q S ds fuel (listed.setIfInBounds i true) a' w') a w) : wpAnyLast P md ops Q S ds (fuel + 1) listed a w :=
  ⟨fun h0 => absurd (hr ▸ h0) hne, hr ▸ h⟩
theorem wpAnyLast_done {listed : Array Bool} {a : Act} {w : World} (hr : Region.ready md ops listed = []) (h : Q .normal a w) :
    ∀ fuel, wpAnyLast P md ops Q S ds fuel listed a w
  | 0 => ⟨hr, h⟩
  | _ + 1 => ⟨fun _ => h, by rw [hr]; simp⟩
theorem wp_region_last {id : Nat} {a : Act} {w : World} (hm : P.follows .mixedOrders = true)
    (h : wpAnyLast P .any ops Q S ds ops.size (Array.replicate ops.size false) a { w with drawn := w.drawn + 1 }) : (Code.region id ops true).wp P Q a w :=
  wp_region_any hm (wpAny_of_last _ _ _ _ h)
end
section
variable {P : Program} {ops : Array Oper} {Q : Exit → Act → World → Prop} {md : Region.Mode} {S : World → Prop} {ds : List Nat}
def AllReadyL (P : Program) (md : Region.Mode) (ops : Array Oper) (Q : Exit → Act → World → Prop) (S : World → Prop) (ds : List Nat) (fuel : Nat) (listed : Array Bool) (a : Act) (w : World) (rs : List Nat) : Prop :=
  ∀ i ∈ rs, wpOp P ops Q i (fun a' w' => (i ∉ ds → S w → S w') ∧ wpAnyLast P md ops Q S ds fuel (listed.setIfInBounds i true) a' w') a w
theorem AllReadyL.nil {fuel : Nat} {listed : Array Bool} {a : Act} {w : World} : AllReadyL P md ops Q S ds fuel listed a w [] := fun _ h => by cases h
theorem AllReadyL.cons {fuel : Nat} {listed : Array Bool} {a : Act} {w : World} {i : Nat} {o : Oper} {rs : List Nat} (ho : ops[i]? = some o) (hd : i ∉ ds)
    (h : ∀ K' : Act → World → Prop, Shut (∀ a w, S w → (S w → wpAnyLast P md ops Q S ds fuel (listed.setIfInBounds i true) a w) → K' a w) → if Region.wanted o (yielded ops a.tmps) = true then Oper.wp P o a w K' Q else K' (a.put o.dst undef) w)
    (hs : AllReadyL P md ops Q S ds fuel listed a w rs) : AllReadyL P md ops Q S ds fuel listed a w (i :: rs) := fun j hj => by
  rcases List.mem_cons.1 hj with rfl | hj
  · exact wpOp_step ho (fun K' hK => h K' (fun a w hS hW => hK a w ⟨fun _ _ => hS, hW hS⟩))
  · exact hs j hj
theorem AllReadyL.cons_last {fuel : Nat} {listed : Array Bool} {a : Act} {w : World} {i : Nat} {o : Oper} {rs : List Nat} (ho : ops[i]? = some o) (hd : i ∈ ds)
    (h : ∀ K' : Act → World → Prop, Shut (∀ a w, wpAnyLast P md ops Q S ds fuel (listed.setIfInBounds i true) a w → K' a w) → if Region.wanted o (yielded ops a.tmps) = true then Oper.wp P o a w K' Q else K' (a.put o.dst undef) w)
    (hs : AllReadyL P md ops Q S ds fuel listed a w rs) : AllReadyL P md ops Q S ds fuel listed a w (i :: rs) := fun j hj => by
  rcases List.mem_cons.1 hj with rfl | hj
  · exact wpOp_step ho (fun K' hK => h K' (fun a w hW => hK a w ⟨fun hn => absurd hd hn, hW⟩))
  · exact hs j hj
theorem wpAnyLast_ready {rs : List Nat} {fuel : Nat} {listed : Array Bool} {a : Act} {w : World} (hr : Region.ready md ops listed = rs) (hne : rs ≠ [])
    (h : AllReadyL P md ops Q S ds fuel listed a w rs) : wpAnyLast P md ops Q S ds (fuel + 1) listed a w := wpAnyLast_all hr hne h
theorem start_ {id n : Nat} {a : Act} {w : World} (l : Array Bool) (hm : P.follows .mixedOrders = true) (hn : ops.size = n) (hl : Array.replicate n false = l) (hS : S w.drew)
    (h : S w.drew → wpAnyLast P .any ops Q S ds n l a w.drew) : (Code.region id ops true).wp P Q a w := by
  subst hn
  subst hl
  exact wp_region_last hm (h hS)
def takeB (md : Region.Mode) (ops : Array Oper) (ds : List Nat) (l l' : Array Bool) (i : Nat) : Bool :=
  Region.noSelect ops && Region.free md ops l i && (Region.ready md ops l).contains i && Region.closedB md ops l && Region.lastB md ops l ds i && (l.setIfInBounds i true == l')
theorem take_ {i : Nat} {N : Option Tmp} {oi : Oper} {v : Value} {fuel : Nat} {l : Array Bool} {a : Act} {w : World} (l' : Array Bool) (hi : ops[i]? = some oi) (hN : oi.dst = N) (hc : takeB md ops ds l l' i = true)
    (hQ : ∀ c a w, Q (.panic c) (a.put oi.dst v) w → Q (.panic c) a w) (hy : YieldsIf P ops S oi v a) (hS : S w) {a' : Act} (ha : a.put N v = a')
    (h : wpAnyLast P md ops Q S ds fuel l' a' w) : wpAnyLast P md ops Q S ds (fuel + 1) l a w := by
  subst ha
  subst hN
  simp only [takeB, Bool.and_eq_true, beq_iff_eq] at hc
  obtain ⟨⟨⟨⟨⟨h1, h2⟩, h3⟩, h4⟩, h5⟩, h6⟩ := hc
  subst h6
  exact wpAnyLast_take hi h1 h2 h3 h4 h5 hQ hy hS h
def anyB (md : Region.Mode) (ops : Array Oper) (l l' : Array Bool) (i : Nat) : Bool :=
  Region.noSelect ops && Region.free md ops l i && (Region.ready md ops l).contains i && (l.setIfInBounds i true == l')
theorem pure_ {i : Nat} {N : Option Tmp} {oi : Oper} {v : Value} {fuel : Nat} {l : Array Bool} {a : Act} {w : World} (l' : Array Bool) (hi : ops[i]? = some oi) (hN : oi.dst = N) (hc : anyB md ops l l' i = true)
    (hQ : ∀ c a w, Q (.panic c) (a.put oi.dst v) w → Q (.panic c) a w) (hy : Yields P ops oi v a) {a' : Act} (ha : a.put N v = a')
    (h : wpAnyLast P md ops Q S ds fuel l' a' w) : wpAnyLast P md ops Q S ds (fuel + 1) l a w := by
  subst ha
  subst hN
  simp only [anyB, Bool.and_eq_true, beq_iff_eq] at hc
  obtain ⟨⟨⟨h1, h2⟩, h3⟩, h6⟩ := hc
  subst h6
  exact wpAnyLast_any hi (Region.noSelect_spec h1) hQ fuel l a w (Region.free_spec hi h2) (by simpa using h3) hy h
def readyB (md : Region.Mode) (ops : Array Oper) (l l' : Array Bool) (i : Nat) : Bool := (Region.ready md ops l == [i]) && (l.setIfInBounds i true == l')
theorem one_ {i : Nat} {N : Option Tmp} {oi : Oper} {fuel : Nat} {l : Array Bool} {a : Act} {w : World} (l' : Array Bool) (hi : ops[i]? = some oi) (hN : oi.dst = N) (hc : readyB md ops l l' i = true) (hd : i ∉ ds)
    (h : ∀ K : Act → World → Prop, Shut (∀ a' w', S w' → (S w' → wpAnyLast P md ops Q S ds fuel l' a' w') → K a' w') → if Region.wanted oi (yielded ops a.tmps) = true then Oper.wp P oi a w K Q else K (a.put N undef) w) :
    wpAnyLast P md ops Q S ds (fuel + 1) l a w := by
  subst hN
  simp only [readyB, Bool.and_eq_true, beq_iff_eq] at hc
  obtain ⟨h1, h2⟩ := hc
  subst h2
  exact wpAnyLast_ready h1 (by simp) (AllReadyL.cons hi hd (fun K hK => h K hK) AllReadyL.nil)
theorem last_ {i : Nat} {N : Option Tmp} {oi : Oper} {fuel : Nat} {l : Array Bool} {a : Act} {w : World} (l' : Array Bool) (hi : ops[i]? = some oi) (hN : oi.dst = N) (hc : readyB md ops l l' i = true) (hd : i ∈ ds)
    (h : ∀ K : Act → World → Prop, Shut (∀ a' w', wpAnyLast P md ops Q S ds fuel l' a' w' → K a' w') → if Region.wanted oi (yielded ops a.tmps) = true then Oper.wp P oi a w K Q else K (a.put N undef) w) :
    wpAnyLast P md ops Q S ds (fuel + 1) l a w := by
  subst hN
  simp only [readyB, Bool.and_eq_true, beq_iff_eq] at hc
  obtain ⟨h1, h2⟩ := hc
  subst h2
  exact wpAnyLast_ready h1 (by simp) (AllReadyL.cons_last hi hd (fun K hK => h K hK) AllReadyL.nil)
theorem done_ {l : Array Bool} {a : Act} {w : World} {n : Nat} (hr : (Region.ready md ops l == []) = true) (h : Q .normal a w) : wpAnyLast P md ops Q S ds n l a w := wpAnyLast_done (by simpa using hr) h n
theorem two_ {i j : Nat} {Ni Nj : Option Tmp} {oi oj : Oper} {fuel : Nat} {l : Array Bool} {a : Act} {w : World} (li lj : Array Bool) (hi : ops[i]? = some oi) (hj : ops[j]? = some oj) (hNi : oi.dst = Ni) (hNj : oj.dst = Nj)
    (hc : (Region.ready md ops l == [i, j] && l.setIfInBounds i true == li && l.setIfInBounds j true == lj) = true) (hdi : i ∉ ds) (hdj : j ∉ ds)
    (h1 : ∀ K : Act → World → Prop, Shut (∀ a' w', S w' → (S w' → wpAnyLast P md ops Q S ds fuel li a' w') → K a' w') → if Region.wanted oi (yielded ops a.tmps) = true then Oper.wp P oi a w K Q else K (a.put Ni undef) w)
    (h2 : ∀ K : Act → World → Prop, Shut (∀ a' w', S w' → (S w' → wpAnyLast P md ops Q S ds fuel lj a' w') → K a' w') → if Region.wanted oj (yielded ops a.tmps) = true then Oper.wp P oj a w K Q else K (a.put Nj undef) w) :
    wpAnyLast P md ops Q S ds (fuel + 1) l a w := by
  subst hNi
  subst hNj
  simp only [Bool.and_eq_true, beq_iff_eq] at hc
  obtain ⟨⟨h3, h4⟩, h5⟩ := hc
  subst h4
  subst h5
  exact wpAnyLast_ready h3 (by simp) (AllReadyL.cons hi hdi (fun K hK => h1 K hK) (AllReadyL.cons hj hdj (fun K hK => h2 K hK) AllReadyL.nil))
def putAll : Act → List (Tmp × Value) → Act
  | a, [] => a
  | a, (n, v) :: r => putAll (a.put (some n) v) r
theorem join_ {σ : Type} {fuel : Nat} {l : Array Bool} {a : Act} {w : World} (fuel' : Nat) (l' : Array Bool) (ns : σ → List (Tmp × Value)) (F : σ → World → Prop)
    (hcont : ∀ s w', F s w' → wpAnyLast P md ops Q S ds fuel' l' (putAll a (ns s)) w')
    (h : (∀ s w', F s w' → wpAnyLast P md ops Q S ds fuel' l' (putAll a (ns s)) w') → wpAnyLast P md ops Q S ds fuel l a w) : wpAnyLast P md ops Q S ds fuel l a w := h hcont
theorem norm_ {fuel : Nat} {l : Array Bool} {a a' : Act} {w : World} (ha : a = a') (h : wpAnyLast P md ops Q S ds fuel l a' w) : wpAnyLast P md ops Q S ds fuel l a w := by
  subst ha
  exact h
theorem call_ {oi : Oper} {N : Option Tmp} {a : Act} {w : World} {K : Act → World → Prop} (f : FuncId) (args : Array Value) (hw : Region.wanted oi (yielded ops a.tmps) = true) (hN : oi.dst = N) (hrun : (execOp a.eval oi).run P w = .ok (.enter f args) w)
    (h : Calls P f args w fun e w' => ∃ v, e = .returned v ∧ K (a.put N v) w') : if Region.wanted oi (yielded ops a.tmps) = true then Oper.wp P oi a w K Q else K (a.put N undef) w := by
  rw [if_pos hw]
  subst hN
  unfold Oper.wp
  rw [hrun, Oper.upon_enter]
  refine h.mono fun e w'' hh => ?_
  obtain ⟨v, rfl, hk⟩ := hh
  exact hk
theorem enters_ {f : FuncId} {fn : Func} (hf : P.funcs[f]? = some fn) (hname : (fn.name == "runtime.NumGoroutine") = false) (hb : fn.body.isSome = true) (args : Array Value) (w : World) : (callFunc f args).run P w = .ok (.enter f args) w := by
  have h1 : fn.name ≠ "runtime.NumGoroutine" := by simpa using hname
  obtain ⟨c, hc⟩ := Option.isSome_iff_exists.1 hb
  simp [callFunc, hf, h1, hc]
theorem goes_ {oi : Oper} {N : Option Tmp} {a : Act} {w : World} {K : Act → World → Prop} {f : FuncId} {fn : Func} {ar0 : Array Operand} {ts : Array TypeId} (hf : P.funcs[f]? = some fn) (hname : (fn.name == "runtime.NumGoroutine") = false) (hb : fn.body.isSome = true) (args : Array Value)
    (hw : Region.wanted oi (yielded ops a.tmps) = true) (hN : oi.dst = N) (hop : oi.op = .call { callee := .value (.func f), args := ar0, argTypes := ts }) (hargs : ar0.map a.eval = args)
    (h : Calls P f args w fun e w' => ∃ v, e = .returned v ∧ K (a.put N v) w') : if Region.wanted oi (yielded ops a.tmps) = true then Oper.wp P oi a w K Q else K (a.put N undef) w := by
  refine call_ f args hw hN ?_ h
  have he := enters_ hf hname hb args w
  unfold execOp
  simp [hop, resolve, Deferred.ofValue, invoke, Act.eval, hargs, he]
theorem value_ {oi : Oper} {N : Option Tmp} {a : Act} {w w1 : World} {v : Value} {K : Act → World → Prop} (hw : Region.wanted oi (yielded ops a.tmps) = true) (hN : oi.dst = N) (hrun : (execOp a.eval oi).run P w = .ok (.value v) w1)
    (h : K (a.put N v) w1) : if Region.wanted oi (yielded ops a.tmps) = true then Oper.wp P oi a w K Q else K (a.put N undef) w := by
  rw [if_pos hw]
  subst hN
  unfold Oper.wp
  rw [hrun]
  exact h
theorem skip_ {oi : Oper} {a : Act} {w w1 : World} {K : Act → World → Prop} (hw : Region.wanted oi (yielded ops a.tmps) = true) (hN : oi.dst = none) (hrun : (execOp a.eval oi).run P w = .ok .skip w1)
    (h : K a w1) : if Region.wanted oi (yielded ops a.tmps) = true then Oper.wp P oi a w K Q else K (a.put none undef) w := by
  rw [if_pos hw]
  unfold Oper.wp
  rw [hrun]
  show K (a.put oi.dst undef) w1
  rw [hN]
  exact h
theorem i64_w (n : Int) : IntKind.i64.wrap n = Go.RowKit.wrap64 n := by unfold Go.RowKit.wrap64; exact IntKind.wrap_i64 n
theorem i32_w (n : Int) : IntKind.i32.wrap n = Go.RowKit.wrap32 n := by unfold Go.RowKit.wrap32; exact IntKind.wrap_i32 n
end
end Go.Proofs.YtjopodnlffaogaaGreatDoorW.PrintLast
end
section
namespace Go.Proofs.YtjopodnlffaogaaGreatDoorW.PrintMore
open Go.RowKit Go.Proofs.YtjopodnlffaogaaGreatDoorW.PrintWords
namespace Kd
open Go.Proofs.YtjopodnlffaogaaGreatDoorW.PrintWords.Kd
end Kd
namespace Kd
open Go.Proofs.YtjopodnlffaogaaGreatDoorW.PrintWords.Kd
section
variable {α : Type} {d : Kd α} {e base g N : Nat} {ok : Nat → Prop} {W w1 : World} {u v : Value} {xs : List α}
end
end Kd
theorem max2_int (k k' : IntKind) (x y : Int) : Builtin.max2 (.int k x) (.int k' y) = pure (.int k (if x < y then y else x)) := by simp only [Builtin.max2, gt_iff_lt]
theorem min2_int (k k' : IntKind) (x y : Int) : Builtin.min2 (.int k x) (.int k' y) = pure (.int k (if y < x then y else x)) := by simp only [Builtin.min2]
theorem max_two (ats : Array TypeId) (ty : TypeId) (a b : Value) : Builtin.max_ ats ty #[a, b] = (Builtin.max2 a b >>= fun s => pure s) := by simp only [Builtin.max_, List.foldlM_cons, List.foldlM_nil]
theorem min_two (ats : Array TypeId) (ty : TypeId) (a b : Value) : Builtin.min_ ats ty #[a, b] = (Builtin.min2 a b >>= fun s => pure s) := by simp only [Builtin.min_, List.foldlM_cons, List.foldlM_nil]
theorem max_three (ats : Array TypeId) (ty : TypeId) (a b c : Value) : Builtin.max_ ats ty #[a, b, c] = (Builtin.max2 a b >>= fun s => Builtin.max2 s c >>= fun s => pure s) := by simp only [Builtin.max_, List.foldlM_cons, List.foldlM_nil]
theorem min_three (ats : Array TypeId) (ty : TypeId) (a b c : Value) : Builtin.min_ ats ty #[a, b, c] = (Builtin.min2 a b >>= fun s => Builtin.min2 s c >>= fun s => pure s) := by simp only [Builtin.min_, List.foldlM_cons, List.foldlM_nil]
theorem max_four (ats : Array TypeId) (ty : TypeId) (a b c d : Value) : Builtin.max_ ats ty #[a, b, c, d] = (Builtin.max2 a b >>= fun s => Builtin.max2 s c >>= fun s => Builtin.max2 s d >>= fun s => pure s) := by simp only [Builtin.max_, List.foldlM_cons, List.foldlM_nil]
theorem min_four (ats : Array TypeId) (ty : TypeId) (a b c d : Value) : Builtin.min_ ats ty #[a, b, c, d] = (Builtin.min2 a b >>= fun s => Builtin.min2 s c >>= fun s => Builtin.min2 s d >>= fun s => pure s) := by simp only [Builtin.min_, List.foldlM_cons, List.foldlM_nil]
end Go.Proofs.YtjopodnlffaogaaGreatDoorW.PrintMore
namespace Go.Proofs.YtjopodnlffaogaaGreatDoorW.PrintWords
open Go.RowKit
section
variable {P : Program} {ops : Array Oper} {rest : List Oper} {o : Oper} {a : Act} {Q : Exit → Act → World → Prop} {W : World}
theorem gate_builtin {b : Builtin} {xs : Array Operand} {ts : Array TypeId} (_ho : o.op = .call { callee := .builtin b, args := xs, argTypes := ts }) (h : wpList P ops Q (o :: rest) a W) : wpList P ops Q (o :: rest) a W := h
end
namespace Kd
section
variable {α : Type} {d : Kd α} {e base : Nat} {ok : Nat → Prop} {W w1 : World} {v : Value} {xs : List α}
end
section
variable {α : Type} {d : Kd α} {e base g n cap : Nat} {ok oki okp : Nat → Prop} {W : World} {xs : List α} {i : Int} {c : List Value}
end
section
variable {α : Type} {d : Kd α} {e base b b' g N : Nat} {ok ok1 : Nat → Prop} {W W2 w1 : World} {u v : Value} {xs ys : List α} {S : Nat → Prop}
end
end Kd
end Go.Proofs.YtjopodnlffaogaaGreatDoorW.PrintWords
namespace Go.Proofs.YtjopodnlffaogaaGreatDoorW.PrintWords
open Go.RowKit
namespace Kd
section
variable {α β : Type} {d : Kd α} {e base base' n m c g N' lo hi : Nat} {ok ok' S : Nat → Prop} {w W w1 : World} {A : Option Addr} {ad : Addr} {u v v1 : Value} {xs : List α}
end
end Kd
end Go.Proofs.YtjopodnlffaogaaGreatDoorW.PrintWords
end
section
namespace Go.Proofs.YtjopodnlffaogaaGreatDoor.Tp
open Go.RowKit Go.Proofs.YtjopodnlffaogaaGreatDoorW.PrintWords Go.Proofs.YtjopodnlffaogaaGreatDoorW.PrintLast Go.Proofs.YtjopodnlffaogaaGreatDoorW.PrintMore
attribute [local go_sem] max2_int min2_int max_two min_two max_three min_three max_four min_four
set_option linter.unusedVariables false
set_option linter.unusedSimpArgs false
structure Mod (S : Nat → Prop) (w w' : World) : Prop where
  os : w'.os = w.os
  tape : w'.tape = w.tape
  output : w'.output = w.output
  size : w.heap.size ≤ w'.heap.size
  block : ∀ i, i < w.heap.size → ¬ S i → w'.heap[i]? = w.heap[i]?
namespace Mod
variable {S T : Nat → Prop} {w w1 w2 : World}
theorem refl (S : Nat → Prop) (w : World) : Mod S w w := ⟨rfl, rfl, rfl, Nat.le_refl _, fun _ _ _ => rfl⟩
theorem trans (h : Mod S w w1) (k : Mod T w1 w2) (hT : ∀ i, i < w.heap.size → T i → S i) : Mod S w w2 :=
  ⟨k.os.trans h.os, k.tape.trans h.tape, k.output.trans h.output, Nat.le_trans h.size k.size, fun i hi hn => (k.block i (Nat.lt_of_lt_of_le hi h.size) (fun ht => hn (hT i hi ht))).trans (h.block i hi hn)⟩
theorem mono (h : Mod S w w1) (hT : ∀ i, i < w.heap.size → S i → T i) : Mod T w w1 := (refl T w).trans h hT
theorem of_below (h : Below w.heap.size w w1) : Mod (fun _ => False) w w1 := ⟨h.os, h.tape, h.output, h.size, fun i hi _ => h.block i hi⟩
theorem below (h : Mod S w w1) {B : Nat} (hB : ∀ i, S i → B ≤ i) (hle : B ≤ w.heap.size) : Below B w w1 := ⟨h.os, h.tape, h.output, h.size, fun i hi => h.block i (by omega) (fun hs => by have := hB i hs; omega)⟩
theorem step (h : Mod S w w1) (k : Below w1.heap.size w1 w2) : Mod S w w2 := h.trans (of_below k) (fun _ _ hf => hf.elim)
theorem alloc (h : Mod S w w1) (o : Obj) : Mod S w (w1.alloc o) := h.step (below_alloc (Below.refl _ _) o)
theorem drew (h : Mod S w w1) : Mod S w w1.drew := h.step (below_drew (Below.refl _ _))
theorem drewN (h : Mod S w w1) (n : Nat) : Mod S w (w1.drewN n) := h.step (pw_below_drewN (Below.refl _ _) n)
theorem setCell (h : Mod S w w1) {p : Addr} (hp : S p.block) (v : Value) : Mod S w (w1.setCell p v) :=
  h.trans (T := fun i => i = p.block) ⟨rfl, rfl, rfl, by simp, fun i _ hn => Below.heap_setCell w1 p v i hn⟩ (fun _ _ he => he ▸ hp)
theorem drawn (h : Mod S w w1) (k : Drawn0 w1 w2) : Mod S w w2 := h.step k.below
theorem blk (h : Mod S w w1) {g : Nat} {o : Obj} (hb : w.heap[g]? = some o) (hg : ¬ S g) : w1.heap[g]? = some o := (h.block g (blk_lt hb) hg).trans hb
theorem cell (h : Mod S w w1) {p : Addr} (hp : p.block < w.heap.size) (hn : ¬ S p.block) : w1.cell? p = w.cell? p := by
  unfold World.cell?
  rw [h.block p.block hp hn]
end Mod
def zeros (n : Nat) (z : Value) : Array Value := (List.replicate n z).toArray
theorem madeCells_one (z : Value) (n : Nat) : madeCells #[z] (n * 1) = zeros n z := by
  unfold madeCells zeros
  apply Array.ext
  · simp
  · intro i h1 h2
    simp
    rw [Nat.mod_one]; rfl
theorem run_make1 {P : Program} (t e : TypeId) (z : Value) (b : Nat) (ht : P.underlying t = some (.slice e)) (hinfo : (P.info? e).map (fun i => (i.zero, i.size, i.bytes)) = some (some z, 1, b)) (hz : z.cells = #[z]) (hb0 : b ≤ 4096)
    (n : Nat) (hn : n ≤ 4294967296) (w : World) :
    (Instr.makeSlice t (.int .i64 (n : Int)) (.int .i64 (n : Int))).run P w = .ok (.slice (some ⟨w.heap.size, 0, none⟩) n n) (w.alloc (.cells (zeros n z) e)) := by
  obtain ⟨i0, hi, hzz⟩ := Option.map_eq_some_iff.1 hinfo
  simp only [Prod.mk.injEq] at hzz
  obtain ⟨hz0, hz1, hz2⟩ := hzz
  have h3 : i0.bytes * n ≤ 4096 * 4294967296 := Nat.mul_le_mul (by omega) hn
  have hr := run_make (P := P) w t e i0 z ht hi hz0 .i64 .i64 (n : Int) (n : Int) (by omega) (by omega) (by
    have : ((i0.bytes * n : Nat) : Int) ≤ 281474976710656 := by omega
    rwa [Int.natCast_mul] at this) (by omega)
  rw [hz1, hz] at hr
  simp only [Int.toNat_natCast, madeCells_one] at hr
  exact hr
theorem run_makeK {P : Program} (t e : TypeId) (z : Value) (k b : Nat) (ht : P.underlying t = some (.slice e)) (hinfo : (P.info? e).map (fun i => (i.zero, i.size, i.bytes)) = some (some z, k, b)) (hb0 : b ≤ 4096)
    (n : Nat) (hn : n ≤ 4294967296) (w : World) :
    (Instr.makeSlice t (.int .i64 (n : Int)) (.int .i64 (n : Int))).run P w = .ok (.slice (some ⟨w.heap.size, 0, none⟩) n n) (w.alloc (.cells (madeCells z.cells (n * k)) e)) := by
  obtain ⟨i0, hi, hzz⟩ := Option.map_eq_some_iff.1 hinfo
  simp only [Prod.mk.injEq] at hzz
  obtain ⟨hz0, hz1, hz2⟩ := hzz
  have h3 : i0.bytes * n ≤ 4096 * 4294967296 := Nat.mul_le_mul (by omega) hn
  have hr := run_make (P := P) w t e i0 z ht hi hz0 .i64 .i64 (n : Int) (n : Int) (by omega) (by omega) (by
    have : ((i0.bytes * n : Nat) : Int) ≤ 281474976710656 := by omega
    rwa [Int.natCast_mul] at this) (by omega)
  rw [hz1] at hr
  simp only [Int.toNat_natCast] at hr
  exact hr
section
variable {α : Type} {d : Kd α} {e : Nat} {W W1 : World} {base : Nat} {ok : Nat → Prop} {v : Value} {xs : List α} {g t : Nat} {cells : Array Value}
theorem R_ne (h : d.R e W base ok v xs) (hb : W.heap[g]? = some (.cells cells t (0, 0))) (ht : ∀ q, q ∈ e :: d.E → q ≠ t) : some g ≠ v.ownBlock := by
  intro he
  obtain ⟨_, _, _, q, hq, cs, hh⟩ := (Kd.R_bound h).1 g he.symm
  rw [hb] at hh
  cases hh
  exact ht _ hq rfl
theorem R_ne2 (h : d.R e W base ok v xs) {o : Obj} (hb : W.heap[g]? = some o) (hn : ∀ c q f, o ≠ .cells c q f) : some g ≠ v.ownBlock := by
  intro he
  obtain ⟨_, _, _, q, hq, cs, hh⟩ := (Kd.R_bound h).1 g he.symm
  rw [hb] at hh
  exact hn _ _ _ (Option.some.inj hh)
theorem blk_app (h : d.R e W base ok v xs) (hg : W.grownBy W1 v.ownBlock) (hb : W.heap[g]? = some (.cells cells t (0, 0))) (ht : ∀ q, q ∈ e :: d.E → q ≠ t) : W1.heap[g]? = some (.cells cells t (0, 0)) := blk_grown hb hg (R_ne h hb ht)
theorem R_mod {S : Nat → Prop} (h : d.R e W base ok v xs) (hm : Mod S W W1) (hS : ∀ q, S q → ∃ c t, W.heap[q]? = some (.cells c t (0, 0)) ∧ ∀ y, y ∈ e :: d.E → y ≠ t) : d.R e W1 base ok v xs :=
  Kd.R_mono (Kd.R_step (Kd.R_bound h) (fun k hk hlt => hm.block k hlt (fun hs => by
    obtain ⟨_, _, _, q, hq, cs, hh⟩ := hk
    obtain ⟨c, t, hc, ht⟩ := hS k hs
    rw [hh] at hc
    cases hc
    exact ht _ hq rfl))) (fun _ hk => hk.1)
theorem Mod.blkT {S : Nat → Prop} {w w1 : World} {g : Nat} {cs : Array Value} {t : TypeId} (h : Mod S w w1) (hb : w.heap[g]? = some (.cells cs t (0, 0))) (hS : ∀ q, S q → ∃ c t', w.heap[q]? = some (.cells c t' (0, 0)) ∧ t ≠ t') : w1.heap[g]? = some (.cells cs t (0, 0)) :=
  h.blk hb (fun hs => by
    obtain ⟨c, t', hc, ht⟩ := hS g hs
    rw [hb] at hc
    cases hc
    exact ht rfl)
theorem R_other {β : Type} {d' : Kd β} {e' base' : Nat} {ok' : Nat → Prop} {v' : Value} {ys : List β} (h : d.R e W base ok v xs) (h' : d'.R e' W base' ok' v' ys) (hg : W.grownBy W1 v'.ownBlock) (ht : ∀ q, q ∈ e :: d.E → ∀ q', q' ∈ e' :: d'.E → q' ≠ q) : d.R e W1 base ok v xs :=
  Kd.R_mono (Kd.R_step (Kd.R_bound h) (fun k hk hlt => by
    obtain ⟨_, _, _, q, hq, cs, hh⟩ := hk
    exact hg.block k hlt (R_ne h' hh (ht q hq)))) (fun _ hk => hk.1)
end
end Go.Proofs.YtjopodnlffaogaaGreatDoor.Tp
end
section
namespace Go.Proofs.YtjopodnlffaogaaGreatDoor.Tp
open Go.RowKit Go.Proofs.YtjopodnlffaogaaGreatDoorW.PrintWords Go.Proofs.YtjopodnlffaogaaGreatDoorW.PrintLast Go.Proofs.YtjopodnlffaogaaGreatDoorW.PrintMore
attribute [local go_sem] max2_int min2_int max_two min_two max_three min_three max_four min_four
set_option linter.unusedVariables false
set_option linter.unusedSimpArgs false
theorem cells6 {w : World} {b : Nat} {t : TypeId} {c0 c1 c2 c3 c4 c5 : Value} (h : w.heap[b]? = some (.cells #[c0, c1, c2, c3, c4, c5] t (0, 0))) : w.cell? ⟨b, 0, none⟩ = some c0 ∧ w.cell? ⟨b, 1, none⟩ = some c1 ∧ w.cell? ⟨b, 2, none⟩ = some c2 ∧ w.cell? ⟨b, 3, none⟩ = some c3 ∧ w.cell? ⟨b, 4, none⟩ = some c4 ∧ w.cell? ⟨b, 5, none⟩ = some c5 :=
  have k := fun i => blk_cell h i
  ⟨k 0, k 1, k 2, k 3, k 4, k 5⟩
theorem cells7 {w : World} {b : Nat} {t : TypeId} {c0 c1 c2 c3 c4 c5 c6 : Value} (h : w.heap[b]? = some (.cells #[c0, c1, c2, c3, c4, c5, c6] t (0, 0))) : w.cell? ⟨b, 0, none⟩ = some c0 ∧ w.cell? ⟨b, 1, none⟩ = some c1 ∧ w.cell? ⟨b, 2, none⟩ = some c2 ∧ w.cell? ⟨b, 3, none⟩ = some c3 ∧ w.cell? ⟨b, 4, none⟩ = some c4 ∧ w.cell? ⟨b, 5, none⟩ = some c5 ∧ w.cell? ⟨b, 6, none⟩ = some c6 :=
  have k := fun i => blk_cell h i
  ⟨k 0, k 1, k 2, k 3, k 4, k 5, k 6⟩
theorem both7 {w : World} {b : Nat} {t : TypeId} {c0 c1 c2 c3 c4 c5 c6 : Value} (h : w.heap[b]? = some (.cells #[c0, c1, c2, c3, c4, c5, c6] t (0, 0))) : w.cell? ⟨b, 0, none⟩ = some c0 ∧ w.frozen? ⟨b, 0, none⟩ = false ∧ w.cell? ⟨b, 1, none⟩ = some c1 ∧ w.frozen? ⟨b, 1, none⟩ = false ∧ w.cell? ⟨b, 2, none⟩ = some c2 ∧ w.frozen? ⟨b, 2, none⟩ = false ∧ w.cell? ⟨b, 3, none⟩ = some c3 ∧ w.frozen? ⟨b, 3, none⟩ = false ∧ w.cell? ⟨b, 4, none⟩ = some c4 ∧ w.frozen? ⟨b, 4, none⟩ = false ∧ w.cell? ⟨b, 5, none⟩ = some c5 ∧ w.frozen? ⟨b, 5, none⟩ = false ∧ w.cell? ⟨b, 6, none⟩ = some c6 ∧ w.frozen? ⟨b, 6, none⟩ = false :=
  have k := fun i => blk_cell h i
  have f := fun i => blk_frozen h i
  ⟨k 0, f 0, k 1, f 1, k 2, f 2, k 3, f 3, k 4, f 4, k 5, f 5, k 6, f 6⟩
end Go.Proofs.YtjopodnlffaogaaGreatDoor.Tp
end
section
namespace Go.Proofs.YtjopodnlffaogaaGreatDoor.Abs
set_option linter.unusedVariables false
set_option linter.unusedSimpArgs false
def Ex.conc : Ex → Exit
  | .normal => .normal
  | .exit id => .exit id
  | .ret => .ret
def Po (P : Program) (G : Nat) (D : List Deferred) (ρ : Rn) (a : A) (w : World) (e : Ex) (t' : Fr) (a' : A) : Exit → Act → World → Prop := fun E c' w' =>
  E = e.conc ∧ ∃ σ, Sta P G D σ t' a' c' w' ∧ St P (fun b => a.next ≤ b) ρ a w σ a' w' ∧ a.next ≤ a'.next
theorem Po.trans {P : Program} {G : Nat} {D : List Deferred} {ρ σ : Rn} {a a1 a' : A} {w w1 : World} {e : Ex} {t' : Fr} {E : Exit} {c' : Act} {w' : World} (h : St P (fun b => a.next ≤ b) ρ a w σ a1 w1) (hn : a.next ≤ a1.next) (k : Po P G D σ a1 w1 e t' a' E c' w') : Po P G D ρ a w e t' a' E c' w' := by
  obtain ⟨h1, τ, h2, h3, h4⟩ := k
  exact ⟨h1, τ, h2, h.trans (h3.wide fun b hb => Nat.le_trans hn hb), Nat.le_trans hn h4⟩
theorem Sta.drew {P : Program} {G : Nat} {D : List Deferred} {ρ : Rn} {t : Fr} {a : A} {c : Act} {w : World} (h : Sta P G D ρ t a c w) : Sta P G D ρ t a c w.drew := ⟨⟨h.rel.obj, h.rel.inj⟩, h.new, h.gl, h.tr, h.df⟩
section
variable {P : Program} {G : Nat} {D : List Deferred} {call : Callee}
def CodeOk (P : Program) (G : Nat) (D : List Deferred) (cd : Code) (x : C) : Prop := ∀ {t t' : Fr} {a a' : A} {e : Ex} {ρ : Rn} {c : Act} {w : World}, x t a = some (e, t', a') → Sta P G D ρ t a c w → cd.wp P (Po P G D ρ a w e t' a') c w
theorem region_ok (hc : CallOk P G call) (hm : P.follows .mixedOrders = true) {id : Nat} {ops : Array Oper} {draw : Bool} (hok : (ops.all fun o => o.op.operands.all (gOk G)) = true) : CodeOk P G D (.region id ops draw) (cRegion P call ops draw) := by
  intro t t' a a' e ρ c w h hS
  have hok' : ∀ o ∈ ops.toList, opOk G o = true := fun o ho => Array.all_eq_true_iff_forall_mem.1 hok o (by simpa using ho)
  unfold cRegion at h
  cases draw with
  | false =>
    rw [cond_false] at h
    split at h
    · rename_i t1 a1 h1
      cases h
      exact wp_region_list (ops1_ok hc ops ops.toList hok' hS h1 fun σ c' w' k1 k2 k3 => ⟨rfl, σ, k1, k2, k3⟩)
    · cases h
  | true =>
    rw [cond_true] at h
    split at h
    · rename_i t1 a1 h1
      cases h
      unfold regionD at h1
      split at h1
      · rename_i hsel
        refine wp_region_any hm (wpAny_of_R _ [] _ _ _ ?_)
        have hst : Std P G D ops a.next ρ a w ρ (Array.replicate ops.size false) t ⟨a.next + ops.size, a.t⟩ c w.drew := by
          have hd := hS.drew
          refine ⟨⟨rel_next hd.rel _, fun b hb => hS.new b (Nat.le_trans (Nat.le_add_right _ _) hb), hS.gl, hS.tr, hS.df⟩, ?_, Nat.le_refl _, fun i _ _ => hS.new _ (Nat.le_add_right _ _), hS.new⟩
          exact ⟨fun _ _ => ⟨rfl, rfl⟩, rel_next hd.rel _, Md.drew _ w, fun c hc => .inl hc, fun c hc => .inl hc⟩
        exact any1_ok hc hok' hsel _ (fun ch c w hq => by cases hq.1) _ (MaskOf.start _) hst (fun p hp => by cases hp) (fun p hp => by cases hp) h1 (fun σ c' w' k1 k2 k3 => ⟨rfl, σ, k1, k2, k3⟩)
      · cases h1
    · cases h
theorem seq_ok {x y : Code} {cx cy : C} (hx : CodeOk P G D x cx) (hy : CodeOk P G D y cy) : CodeOk P G D (.seq x y) (cSeq cx cy) := by
  intro t t' a a' e ρ c w h hS
  unfold cSeq at h
  split at h
  · rename_i t1 a1 h1
    refine wp_seq (Go.wp_mono (hx h1 hS) ?_)
    rintro E c1 w1 ⟨rfl, σ, k1, k2, k3⟩
    exact Go.wp_mono (hy h k1) fun E c2 w2 hp => Po.trans k2 k3 hp
  · rename_i hne
    refine wp_seq (Go.wp_mono (hx h hS) ?_)
    rintro E c1 w1 ⟨rfl, hp⟩
    cases e with
    | normal => exact absurd h (hne _ _)
    | exit id => exact ⟨rfl, hp⟩
    | ret => exact ⟨rfl, hp⟩
theorem cond_ok {cnd : Operand} {x y : Code} {cx cy : C} (hg : gOk G cnd = true) (hx : CodeOk P G D x cx) (hy : CodeOk P G D y cy) : CodeOk P G D (.cond cnd x y) (cCond cnd cx cy) := by
  intro t t' a a' e ρ c w h hS
  have hv : VR ρ (ev t cnd) (c.eval cnd) := by
    cases cnd with
    | tmp i => exact hS.tr.get i
    | const v => exact VR.flat (v := v) (by simpa [gOk] using hg)
    | global g => exact .ptr (hS.gl g (by simpa [gOk, Nat.blt_eq] using hg))
    | func f => exact .flat rfl
  unfold cCond at h
  split at h
  · rename_i hb
    rw [hb] at hv
    exact wp_cond_true hv.bool_inv (hx h hS)
  · rename_i hb
    rw [hb] at hv
    exact wp_cond_false hv.bool_inv (hy h hS)
  · cases h
theorem block_ok {id : Nat} {x : Code} {cx : C} (hx : CodeOk P G D x cx) : CodeOk P G D (.block id x) (cBlock id cx) := by
  intro t t' a a' e ρ c w h hS
  unfold cBlock at h
  split at h
  · rename_i id' t1 a1 h1
    split at h
    · rename_i hid
      cases h
      refine wp_block (Go.wp_mono (hx h1 hS) ?_)
      rintro E c1 w1 ⟨rfl, hp⟩
      have := Nat.eq_of_beq_eq_true hid
      show Exit.inBlock id _ (.exit id') c1 w1
      simp only [Exit.inBlock, if_pos this]
      exact ⟨rfl, hp⟩
    · rename_i hid
      cases h
      refine wp_block (Go.wp_mono (hx h1 hS) ?_)
      rintro E c1 w1 ⟨rfl, hp⟩
      have hne : ¬ id' = id := fun e => by rw [e, Nat.beq_refl] at hid; cases hid
      show Exit.inBlock id _ (.exit id') c1 w1
      simp only [Exit.inBlock, if_neg hne]
      exact ⟨rfl, hp⟩
  · rename_i hne
    refine wp_block (Go.wp_mono (hx h hS) ?_)
    rintro E c1 w1 ⟨rfl, hp⟩
    cases e with
    | normal => exact ⟨rfl, hp⟩
    | exit id => exact absurd h (hne _ _ _)
    | ret => exact ⟨rfl, hp⟩
theorem rounds_mono {x : Code} {Q R : Exit → Act → World → Prop} (h : ∀ e a w, Q e a w → R e a w) : ∀ (n : Nat) {a : Act} {w : World}, Code.rounds P x Q n a w → Code.rounds P x R n a w
  | 0, _, _, hh => hh
  | n + 1, a, w, hh => by
    rw [rounds_succ] at hh ⊢
    refine Go.wp_mono hh fun e a w hq => ?_
    cases e with
    | normal => exact rounds_mono h n hq
    | _ => exact h _ _ _ hq
theorem rounds_ok {x : Code} {cx : C} (hx : CodeOk P G D x cx) : ∀ (n : Nat) {t t' : Fr} {a a' : A} {e : Ex} {ρ : Rn} {c : Act} {w : World}, rounds cx n t a = some (e, t', a') → Sta P G D ρ t a c w → Code.rounds P x (Po P G D ρ a w e t' a') n c w
  | 0, t, t', a, a', e, ρ, c, w, h, hS => by cases h
  | n + 1, t, t', a, a', e, ρ, c, w, h, hS => by
    rw [rounds_succ]
    change (match cx t a with | some (.normal, t', a') => rounds cx n t' a' | r => r) = _ at h
    split at h
    · rename_i t1 a1 h1
      refine Go.wp_mono (hx h1 hS) ?_
      rintro E c1 w1 ⟨rfl, σ, k1, k2, k3⟩
      have := rounds_ok hx n h k1
      refine rounds_mono ?_ n this
      exact fun E c2 w2 hp => Po.trans k2 k3 hp
    · rename_i hne
      refine Go.wp_mono (hx h hS) ?_
      rintro E c1 w1 ⟨rfl, hp⟩
      cases e with
      | normal => exact absurd h (hne _ _)
      | exit id => exact ⟨rfl, hp⟩
      | ret => exact ⟨rfl, hp⟩
theorem code_ok (hc : CallOk P G call) (hm : P.follows .mixedOrders = true) (lf : Nat) : ∀ (cd : Code), codeOk G cd = true → CodeOk P G D cd (code P call lf cd)
  | .skip, _ => fun h hS => by
    cases h
    exact wp_skip ⟨rfl, _, hS, St.refl hS.rel, Nat.le_refl _⟩
  | .region id ops draw, hok => region_ok hc hm (by simpa only [codeOk] using hok)
  | .seq x y, hok => by
    simp only [codeOk, Bool.and_eq_true] at hok
    exact seq_ok (code_ok hc hm lf x hok.1) (code_ok hc hm lf y hok.2)
  | .cond cnd x y, hok => by
    simp only [codeOk, Bool.and_eq_true] at hok
    exact cond_ok hok.1.1 (code_ok hc hm lf x hok.1.2) (code_ok hc hm lf y hok.2)
  | .block id x, hok => by
    simp only [codeOk] at hok
    exact block_ok (code_ok hc hm lf x hok)
  | .loop x, hok => fun h hS => by
    simp only [codeOk] at hok
    exact wp_loop_rounds lf (rounds_ok (code_ok hc hm lf x hok) lf h hS)
  | .rangeFunc _ _ _ _, _ => fun h hS => by cases h
  | .exit id, _ => fun h hS => by
    cases h
    exact wp_exit ⟨rfl, _, hS, St.refl hS.rel, Nat.le_refl _⟩
  | .scope _, _ => fun h hS => by cases h
  | .label l, _ => fun h hS => by
    cases h
    exact wp_label ⟨rfl, _, hS, St.refl hS.rel, Nat.le_refl _⟩
  | .goto _, _ => fun h hS => by cases h
  | .ret, _ => fun h hS => by
    cases h
    exact wp_ret ⟨rfl, _, hS, St.refl hS.rel, Nat.le_refl _⟩
  | .refuse _, _ => fun h hS => by cases h
end
def resF (c : Array Value) (r : ResultVar) : Sem Value :=
  match r with
  | .tmp t => pure (c.getD t undef)
  | .cell x ty => do loadVar ty (← asAddr (c.getD x undef))
theorem resultsOf_ok {P : Program} {σ : Rn} {t : Fr} {a : A} {c : Array Value} {w : World} (hR : Rel P σ a w) (hT : TR σ t c) : ∀ {l : List ResultVar} {vs : List Value}, resultsOf P t a l = some vs →
    ∃ ws, LR σ vs ws ∧ (l.mapM (resF c)).run P w = .ok ws w
  | [], vs, h => by
    simp [resultsOf] at h; subst h
    exact ⟨[], .nil, rfl⟩
  | .tmp x :: l, vs, h => by
    simp only [resultsOf] at h
    split at h
    · rename_i us hu
      cases h
      obtain ⟨ws, h1, h2⟩ := resultsOf_ok hR hT hu
      exact ⟨_, .cons (hT.get x) h1, by simp only [List.mapM_cons, resF, Sem.run_bind, Sem.run_pure, Result.andThen_ok, h2]⟩
    · cases h
  | .cell x ty :: l, vs, h => by
    simp only [resultsOf] at h
    split at h
    · rename_i v fs us hl hu
      cases h
      obtain ⟨ws, h1, h2⟩ := resultsOf_ok hR hT hu
      have hload := load_ok hR (hT.get x) hl
      obtain ⟨cv, L, v1, v2, v3, v4⟩ := hload
      have hrun := v4 w v3
      have hx := hT.get x
      have hptr : ∃ p, c.getD x undef = .pointer (some p) := by
        unfold opLoad at hl
        split at hl
        · rename_i b o he
          rw [he] at hx
          obtain ⟨q, hq, _⟩ := hx.ptr_inv
          exact ⟨_, hq⟩
        · cases hl
      obtain ⟨p, hp⟩ := hptr
      refine ⟨cv :: ws, .cons v1 h1, ?_⟩
      rw [hp] at hrun
      have he : (resF c (.cell x ty)).run P w = .ok cv w := by
        show (Sem.run P (do loadVar ty (← asAddr (c.getD x undef)) : Sem Value) w) = _
        rw [hp]
        exact hrun
      rw [List.mapM_cons, Sem.run_bind, he]
      simp only [Result.andThen_ok, Sem.run_bind, h2, Sem.run_pure]
    · cases h
theorem results_ok {P : Program} {σ : Rn} {t : Fr} {a : A} {c : Array Value} {w : World} (hR : Rel P σ a w) (hT : TR σ t c) {fn : Func} {vs : List Value} (h : resultsOf P t a fn.results.toList = some vs) : ∃ cv, VR σ (tupled vs) cv ∧ (results fn c).run P w = .ok cv w := by
  obtain ⟨ws, h1, h2⟩ := resultsOf_ok hR hT h
  have hres : results fn c = (fn.results.mapM (resF c) >>= fun vs => pure (if h : vs.size = 1 then vs[0] else .tuple vs)) := rfl
  have hrun : (results fn c).run P w = .ok (if h : ws.toArray.size = 1 then ws.toArray[0] else .tuple ws.toArray) w := by
    rw [hres, Array.mapM_eq_mapM_toList]
    simp only [Sem.run_bind, Sem.run_map, h2, Result.andThen_ok, Sem.run_pure]
  refine ⟨_, ?_, hrun⟩
  cases h1 with
  | nil => exact .flat rfl
  | cons hv ht =>
    cases ht with
    | nil => exact hv
    | cons hv2 ht2 =>
      rw [dif_neg (by simp)]
      exact .tuple (.cons hv (.cons hv2 ht2))
def Fit (P : Program) (G : Nat) : Prop := ∀ (f : Nat) (fn : Func), P.funcs[f]? = some fn → okFn G fn = true
theorem okFns_mem {G : Nat} : ∀ {l : List Func}, okFns G l = true → ∀ fn ∈ l, okFn G fn = true
  | [], _, fn, h => by cases h
  | x :: l, h, fn, hm => by
    have h2 : (match okFn G x with | true => okFns G l | false => false) = true := h
    split at h2
    · rename_i hx
      rcases List.mem_cons.1 hm with rfl | hm
      · exact hx
      · exact okFns_mem h2 fn hm
    · cases h2
theorem fit_of {P : Program} {G k : Nat} (h1 : okFns G (P.funcs.toList.take k) = true) (h2 : okFns G (P.funcs.toList.drop k) = true) : Fit P G := fun f fn hf => by
  have hm : fn ∈ P.funcs.toList := by
    rw [← Array.getElem?_toList] at hf
    exact List.mem_of_getElem? hf
  rw [← List.take_append_drop k P.funcs.toList] at hm
  rcases List.mem_append.1 hm with hm | hm
  · exact okFns_mem h1 fn hm
  · exact okFns_mem h2 fn hm
theorem callF_ok {P : Program} {G : Nat} {call : Callee} (hc : CallOk P G call) (hm : P.follows .mixedOrders = true) (hF : Fit P G) (lf : Nat) : CallOk P G (callF P G lf call) := by
  intro f args a v a' h ρ w cargs hR hn hg hl
  unfold callF at h
  split at h
  · cases h
  · rename_i fn hf
    split at h
    · cases h
    · rename_i cd hb
      split at h
      · rename_i hq
        have hfn := hF f fn hf
        unfold okFn at hfn
        rw [hb] at hfn
        simp only [] at hfn
        have q1 : codeOk G cd = true := by
          cases hcd : codeOk G cd with
          | true => rfl
          | false => rw [hcd] at hfn; cases hfn
        rw [q1] at hfn
        have q2 := Nat.le_of_ble_eq_true hfn
        have q3 := Nat.le_of_ble_eq_true hq
        have htr := frame_tr hl fn.ntmps q2 q3
        have hS : Sta P G [] ρ (frameOf fn.ntmps args) a { tmps := cargs ++ Array.replicate (fn.ntmps - cargs.size) undef, defers := [] } w := ⟨hR, hn, hg, htr, rfl⟩
        refine calls_of_wp hf hb ?_
        unfold leave at h
        split at h
        · cases h
        · rename_i e t1 a1 hx hcode
          split at h
          · rename_i vs hvs
            cases h
            refine Go.wp_mono (code_ok hc hm lf cd q1 hcode hS) ?_
            rintro E c1 w1 ⟨rfl, σ, k1, k2, k3⟩
            obtain ⟨cv, r1, r2⟩ := results_ok k1.rel k1.tr hvs
            have hfin : c1.defers = [] ∧ ∃ v, (results fn c1.tmps).run P w1 = .ok v w1 ∧ (∃ cv σ, Ending.returned v = .returned cv ∧ VR σ (tupled vs) cv ∧ St P (fun b => a.next ≤ b) ρ a w σ a' w1 ∧ New σ a'.next ∧ a.next ≤ a'.next) := ⟨k1.df, cv, r2, cv, σ, rfl, r1, k2, k1.new, k3⟩
            cases e with
            | normal => exact hfin
            | ret => exact hfin
            | exit id => exact absurd rfl (hx _)
          · cases h
        · cases h
      · cases h
theorem run_ok {P : Program} {G : Nat} {I : Callee} (hI : CallOk P G I) (hm : P.follows .mixedOrders = true) (hF : Fit P G) (lf : Nat) : ∀ n, CallOk P G (run P G I lf n)
  | 0 => fun f args a v a' h => by cases h
  | n + 1 => fun f args a v a' h => by
    change (match I f args a with | some r => some r | none => callF P G lf (run P G I lf n) f args a) = _ at h
    split at h
    · rename_i r hr
      cases h
      exact hI f args a v a' hr
    · exact callF_ok (run_ok hI hm hF lf n) hm hF lf f args a v a' h
end Go.Proofs.YtjopodnlffaogaaGreatDoor.Abs
end
section
namespace Go.Proofs.YtjopodnlffaogaaGreatDoor.PTopConfig
open Go.RowKit Go.Proofs.YtjopodnlffaogaaGreatDoorW.PrintWords Go.Proofs.YtjopodnlffaogaaGreatDoorW.PrintLast Go.Proofs.YtjopodnlffaogaaGreatDoorW.PrintMore
attribute [local go_sem] max2_int min2_int max_two min_two max_three min_three max_four min_four   -- for this text's walks alone
set_option linter.unusedVariables false
set_option linter.unusedSimpArgs false
end Go.Proofs.YtjopodnlffaogaaGreatDoor.PTopConfig
end
section
namespace Go.Proofs.YtjopodnlffaogaaGreatDoor.Tp
open Go.RowKit Go.Proofs.YtjopodnlffaogaaGreatDoorW.PrintWords Go.Proofs.YtjopodnlffaogaaGreatDoorW.PrintLast Go.Proofs.YtjopodnlffaogaaGreatDoorW.PrintMore
attribute [local go_sem] max2_int min2_int max_two min_two max_three min_three max_four min_four
set_option linter.unusedVariables false
set_option linter.unusedSimpArgs false
abbrev ringC (g m first n : Nat) : Array Value := #[.slice (some ⟨g, 0, none⟩) m m, .int .i64 (first : Int), .int .i64 (n : Int)]
def row32 (xs : List Int) : Array Value := (xs.map (Value.int .u32)).toArray
theorem row32_at (xs : List Int) (i : Nat) (h : i < xs.length) : (row32 xs)[i]? = some (.int .u32 (xs.getD i 0)) := by simp [row32, h]
theorem row32_set (xs : List Int) (i : Nat) (v : Int) : (row32 xs).setIfInBounds i (.int .u32 v) = row32 (xs.set i v) := by
  unfold row32; simp [List.map_set]
theorem wrap_nat (x : Int) (n : Nat) (h : x = (n : Int)) (hn : n ≤ 4611686018427387904) : IntKind.i64.wrap x = (n : Int) := by
  subst h; exact IntWalk.i64_in _ (by omega)
set_option maxHeartbeats 4000000 in
set_option maxRecDepth 100000 in
theorem room_calls (b g m first n : Nat) (w : World) (hb : w.heap[b]? = some (.cells (ringC g m first n) 284 (0, 0))) (hn : n ≤ m) (hm : m ≤ 4096) :
    Calls Tryz.prog 132 #[.pointer (some ⟨b, 0, none⟩)] w fun e w' => e = .returned (.int .i64 ((m - n : Nat) : Int)) ∧ Drawn0 w w' := by
  have c0 := (blk_cell hb 0).trans rfl
  have c2 := (blk_cell hb 2).trans rfl
  have hs : IntKind.i64.wrap ((m : Int) - (n : Int)) = ((m - n : Nat) : Int) := wrap_nat _ _ (by omega) (by omega)
  clear hb hn hm
  go_enter Tryz.func132, Tryz.ntmps132
  go_wp2
  go_quiet (fail)
  go_wp2
  go_ret
  exact ⟨rfl, ⟨⟨_, rfl⟩⟩⟩
set_option maxHeartbeats 4000000 in
set_option maxRecDepth 100000 in
theorem at_calls (b g m first n i : Nat) (w : World) (hb : w.heap[b]? = some (.cells (ringC g m first n) 284 (0, 0))) (h0 : 0 < m) (hm : m ≤ 4096) (hf : first ≤ 4096) (hi : i ≤ 4096) :
    Calls Tryz.prog 206 #[.pointer (some ⟨b, 0, none⟩), .int .i64 (i : Int)] w fun e w' => e = .returned (.int .i64 (((first + i) % m : Nat) : Int)) ∧ Drawn0 w w' := by
  have c0 := (blk_cell hb 0).trans rfl
  have c1 := (blk_cell hb 1).trans rfl
  have hs : IntKind.i64.wrap ((first : Int) + (i : Int)) = ((first + i : Nat) : Int) := wrap_nat _ _ (by omega) (by omega)
  have hr : ((first + i : Nat) : Int).tmod (m : Int) = (((first + i) % m : Nat) : Int) := rfl
  have hz : ¬ (m : Int) = 0 := by omega
  have hz1 : ((m : Int) == 0) = false := beq_eq_false_iff_ne.mpr hz
  clear hb hf hi hm h0
  go_enter Tryz.func206, Tryz.ntmps206
  go_wp2
  go_quiet (fail)
  go_wp2
  go_ret
  exact ⟨rfl, ⟨⟨_, rfl⟩⟩⟩
set_option maxHeartbeats 4000000 in
set_option maxRecDepth 100000 in
theorem ringNew_calls (m : Nat) (w : World) (hm : m ≤ 4096) :
    Calls Tryz.prog 168 #[.int .i64 (m : Int)] w fun e w' => e = .returned (.pointer (some ⟨w.heap.size + 1, 0, none⟩)) ∧ w' = (w.alloc (.cells (zeros m (.int .u32 0)) 22)).alloc (.cells (ringC w.heap.size m 0 0) 284) := by
  have hmk := fun (W : World) => run_make1 (P := Tryz.prog) 33 22 (.int .u32 0) 4 Tryz.underlying33 (by kernel_rfl) rfl (by decide) m (by omega) W
  have hmx : max (m : Int) 0 = (m : Int) := by omega
  have hmn : min (m : Int) 4096 = (m : Int) := by omega
  clear hm
  go_enter Tryz.func168, Tryz.ntmps168
  go_wp2
  go_ret
  exact ⟨rfl, rfl⟩
set_option maxHeartbeats 4000000 in
set_option maxRecDepth 100000 in
theorem put_calls (b g m first n : Nat) (xs : List Int) (v : Int) (w : World) (hb : w.heap[b]? = some (.cells (ringC g m first n) 284 (0, 0))) (hg : w.heap[g]? = some (.cells (row32 xs) 22 (0, 0))) (hx : xs.length = m) (hn : n < m) (hm : m ≤ 4096) (hf : first < m) :
    Calls Tryz.prog 170 #[.pointer (some ⟨b, 0, none⟩), .int .u32 v] w fun e w' => e = .returned (.bool true) ∧ Mod (fun k => k = b ∨ k = g) w w' ∧ w'.heap[b]? = some (.cells (ringC g m first (n + 1)) 284 (0, 0)) ∧ w'.heap[g]? = some (.cells (row32 (xs.set ((first + n) % m) v)) 22 (0, 0)) := by
  have P := Aside0.mk (fun (W : World) (h : W.heap[b]? = some (.cells (ringC g m first n) 284 (0, 0))) => at_calls b g m first n n W h (by omega) hm (by omega) (by omega))
  have hj : (first + n) % m < m := Nat.mod_lt _ (by omega)
  generalize (first + n) % m = j at P hj ⊢
  have hne : b ≠ g := blk_ne hb hg (by decide)
  have B0 := Aside0.mk hb
  have B1 := Aside0.mk hg
  have ht : (((m - n : Nat) : Int) == 0) = false := beq_eq_false_iff_ne.mpr (by omega)
  have hs : IntKind.i64.wrap ((n : Int) + 1) = ((n + 1 : Nat) : Int) := wrap_nat _ _ (by omega) (by omega)
  have R0 := Aside0.mk (fun (W : World) (h : W.heap[b]? = some (.cells (ringC g m first n) 284 (0, 0))) => room_calls b g m first n W h (by omega) hm)
  have hm1 : (m : Int) ≤ 4096 := by omega
  have hj1 : (j : Int) < (m : Int) := by omega
  have HX := Aside0.mk hx
  have HJ := Aside0.mk hj
  clear hb hg hn hf hj hm hx
  go_enter Tryz.func170, Tryz.ntmps170
  go_wp2_with (go_at_call 132; refine (R0.out _ B0.out).mono ?_; rintro e w1 ⟨rfl, hd⟩; have HM := Aside0.mk (((Mod.refl (fun k => k = b ∨ k = g) w)).drawn hd); have n0 := Aside0.mk (blk_below B0.out hd.below); have n1 := Aside0.mk (blk_below B1.out hd.below); clear B0 B1 hd)

  refine start_ (n := 13) (S := fun w' => w'.heap[b]? = some (.cells (ringC g m first n) 284 (0, 0)) ∧ w'.heap[g]? = some (.cells (row32 xs) 22 (0, 0))) (ds := [12]) #[false, false, false, false, false, false, false, false, false, false, false, false, false] (by kernel_rfl) rfl rfl ⟨n0.out, n1.out⟩ (fun hHeld => ?_)
  have n_n0 := Aside0.mk ((show (w1.drew).heap[b]? = some (.cells (ringC g m first n) 284 (0, 0)) from n0.out))
  have n_n1 := Aside0.mk ((show (w1.drew).heap[g]? = some (.cells (row32 xs) 22 (0, 0)) from n1.out))
  have n_HM := Aside0.mk (HM.out.drew)
  clear n0 n1 HM
  have n0 := n_n0
  have n1 := n_n1
  have HM := n_HM
  clear n_n0 n_n1 n_HM
  generalize w1.drew = w2 at n0 n1 HM hHeld ⊢
  refine pure_ (i := 0) (N := some 8) (v := ?_) (a' := ?_) #[true, false, false, false, false, false, false, false, false, false, false, false, false] rfl rfl (by kernel_rfl) (fun _ _ _ h => h) (Or.inl ⟨by rfl, ?_⟩) ?_ ?_
  rotate_left
  · intro w'
    go_simp
    with_reducible rfl
  rotate_left
  · simp only [Act.put, List.setIfInBounds_toArray, List.set_cons_zero, List.set_cons_succ, i64_w, i32_w]
    rfl
  refine pure_ (i := 1) (N := some 9) (v := ?_) (a' := ?_) #[true, true, false, false, false, false, false, false, false, false, false, false, false] rfl rfl (by kernel_rfl) (fun _ _ _ h => h) (Or.inl ⟨by rfl, ?_⟩) ?_ ?_
  rotate_left
  · intro w'
    go_simp
    with_reducible rfl
  rotate_left
  · simp only [Act.put, List.setIfInBounds_toArray, List.set_cons_zero, List.set_cons_succ, i64_w, i32_w]
    rfl
  refine pure_ (i := 2) (N := some 10) (v := ?_) (a' := ?_) #[true, true, true, false, false, false, false, false, false, false, false, false, false] rfl rfl (by kernel_rfl) (fun _ _ _ h => h) (Or.inl ⟨by rfl, ?_⟩) ?_ ?_
  rotate_left
  · intro w'
    go_simp
    with_reducible rfl
  rotate_left
  · simp only [Act.put, List.setIfInBounds_toArray, List.set_cons_zero, List.set_cons_succ, i64_w, i32_w]
    rfl
  refine pure_ (i := 4) (N := some 12) (v := ?_) (a' := ?_) #[true, true, true, false, true, false, false, false, false, false, false, false, false] rfl rfl (by kernel_rfl) (fun _ _ _ h => h) (Or.inl ⟨by rfl, ?_⟩) ?_ ?_
  rotate_left
  · intro w'
    go_simp
    with_reducible rfl
  rotate_left
  · simp only [Act.put, List.setIfInBounds_toArray, List.set_cons_zero, List.set_cons_succ, i64_w, i32_w]
    rfl
  refine pure_ (i := 5) (N := some 13) (v := ?_) (a' := ?_) #[true, true, true, false, true, true, false, false, false, false, false, false, false] rfl rfl (by kernel_rfl) (fun _ _ _ h => h) (Or.inl ⟨by rfl, ?_⟩) ?_ ?_
  rotate_left
  · intro w'
    go_simp
    with_reducible rfl
  rotate_left
  · simp only [Act.put, List.setIfInBounds_toArray, List.set_cons_zero, List.set_cons_succ, i64_w, i32_w]
    rfl
  refine pure_ (i := 6) (N := some 14) (v := ?_) (a' := ?_) #[true, true, true, false, true, true, true, false, false, false, false, false, false] rfl rfl (by kernel_rfl) (fun _ _ _ h => h) (Or.inl ⟨by rfl, ?_⟩) ?_ ?_
  rotate_left
  · intro w'
    go_simp
    with_reducible rfl
  rotate_left
  · simp only [Act.put, List.setIfInBounds_toArray, List.set_cons_zero, List.set_cons_succ, i64_w, i32_w]
    rfl
  refine pure_ (i := 7) (N := some 15) (v := ?_) (a' := ?_) #[true, true, true, false, true, true, true, true, false, false, false, false, false] rfl rfl (by kernel_rfl) (fun _ _ _ h => h) (Or.inl ⟨by rfl, ?_⟩) ?_ ?_
  rotate_left
  · intro w'
    go_simp
    with_reducible rfl
  rotate_left
  · simp only [Act.put, List.setIfInBounds_toArray, List.set_cons_zero, List.set_cons_succ, i64_w, i32_w]
    rfl
  refine pure_ (i := 10) (N := some 18) (v := ?_) (a' := ?_) #[true, true, true, false, true, true, true, true, false, false, true, false, false] rfl rfl (by kernel_rfl) (fun _ _ _ h => h) (Or.inl ⟨by rfl, ?_⟩) ?_ ?_
  rotate_left
  · intro w'
    go_simp
    with_reducible rfl
  rotate_left
  · simp only [Act.put, List.setIfInBounds_toArray, List.set_cons_zero, List.set_cons_succ, i64_w, i32_w]
    rfl
  refine take_ (i := 3) (N := some 11) (v := .slice (some ⟨g, 0, none⟩) m m) (a' := ?_) #[true, true, true, true, true, true, true, true, false, false, true, false, false] rfl rfl (by kernel_rfl) (fun _ _ _ h => h) (Or.inl ⟨by rfl, ?_⟩) hHeld ?_ ?_
  · intro w' hS
    have c0 := (blk_cell hS.1 0).trans rfl
    clear hHeld hS
    go_simp
  rotate_left
  · simp only [Act.put, List.setIfInBounds_toArray, List.set_cons_zero, List.set_cons_succ, i64_w, i32_w]
    rfl
  refine take_ (i := 8) (N := some 16) (v := .int .i64 (n : Int)) (a' := ?_) #[true, true, true, true, true, true, true, true, true, false, true, false, false] rfl rfl (by kernel_rfl) (fun _ _ _ h => h) (Or.inl ⟨by rfl, ?_⟩) hHeld ?_ ?_
  · intro w' hS
    have c2 := (blk_cell hS.1 2).trans rfl
    clear hHeld hS
    go_simp
  rotate_left
  · simp only [Act.put, List.setIfInBounds_toArray, List.set_cons_zero, List.set_cons_succ, i64_w, i32_w]
    rfl
  refine one_ (i := 9) (N := some 17) #[true, true, true, true, true, true, true, true, true, true, true, false, false] rfl rfl (by kernel_rfl) (by decide) (fun K hK => ?_)
  refine goes_ Tryz.func206 (by kernel_rfl) rfl #[.pointer (some ⟨b, 0, none⟩), .int .i64 (n : Int)] (by rfl) rfl rfl (by (try simp only [List.map_toArray, List.map_cons, List.map_nil]); first | done | rfl) ?_
  refine (P.out _ n0.out).mono ?_
  rintro e w9 ⟨rfl, hd⟩
  have hb := hd.below
  clear hd
  refine ⟨_, rfl, ?_⟩
  have n_n0 := Aside0.mk (blk_below n0.out hb)
  have n_n1 := Aside0.mk (blk_below n1.out hb)
  have n_HM := Aside0.mk (HM.out.step hb)
  clear n0 n1 HM hb hHeld
  have n0 := n_n0
  have n1 := n_n1
  have HM := n_HM
  clear n_n0 n_n1 n_HM
  refine hK.out _ _ ⟨n0.out, n1.out⟩ (fun hHeld => ?_)
  clear hK K
  refine norm_ (a' := ?_) ?_ ?_
  rotate_left
  · show Act.put _ (some 17) _ = _
    simp only [Act.put, List.setIfInBounds_toArray, List.set_cons_zero, List.set_cons_succ, i64_w, i32_w]
    rfl
  refine pure_ (i := 11) (N := some 19) (v := ?_) (a' := ?_) #[true, true, true, true, true, true, true, true, true, true, true, true, false] rfl rfl (by kernel_rfl) (fun _ _ _ h => h) (Or.inl ⟨by rfl, ?_⟩) ?_ ?_
  rotate_left
  · intro w'
    go_simp
    with_reducible rfl
  rotate_left
  · simp only [Act.put, List.setIfInBounds_toArray, List.set_cons_zero, List.set_cons_succ, i64_w, i32_w]
    rfl
  refine last_ (i := 12) (N := none) #[true, true, true, true, true, true, true, true, true, true, true, true, true] rfl rfl (by kernel_rfl) (by decide) (fun K hK => ?_)
  refine skip_ (w1 := w9.setCell ⟨g, j, none⟩ (.int .u32 v)) (by rfl) rfl ?_ ?_
  · clear hK hHeld
    have cj := (blk_cell n1.out j).trans (row32_at xs j (by rw [HX.out]; exact HJ.out))
    have fj := blk_frozen n1.out j
    go_simp
  have n_n0 := Aside0.mk (blk_far (p := ⟨g, j, none⟩) n0.out hne (.int .u32 v))
  have n_n1 := Aside0.mk ((blk_set n1.out j (.int .u32 v)).trans (by rw [row32_set]))
  have n_HM := Aside0.mk (HM.out.setCell (p := ⟨g, j, none⟩) (Or.inr rfl) (.int .u32 v))
  clear n0 n1 HM hHeld
  have n0 := n_n0
  have n1 := n_n1
  have HM := n_HM
  clear n_n0 n_n1 n_HM
  generalize w9.setCell ⟨g, j, none⟩ (.int .u32 v) = w3 at n0 n1 HM ⊢
  refine hK.out _ _ ?_
  clear hK K
  refine done_ (by kernel_rfl) ?_
  have c2 := (blk_cell n0.out 2).trans rfl
  have f2 := blk_frozen n0.out 2
  go_wp2
  go_ret
  exact ⟨rfl, HM.out.setCell (p := ⟨b, 2, none⟩) (Or.inl rfl) _, (blk_set n0.out 2 _).trans rfl, blk_far (p := ⟨b, 2, none⟩) n1.out hne.symm _⟩
end Go.Proofs.YtjopodnlffaogaaGreatDoor.Tp
end
section
namespace Go.Proofs.YtjopodnlffaogaaGreatDoor.Tp
open Go.RowKit Go.Proofs.YtjopodnlffaogaaGreatDoorW.PrintWords Go.Proofs.YtjopodnlffaogaaGreatDoorW.PrintLast Go.Proofs.YtjopodnlffaogaaGreatDoorW.PrintMore
attribute [local go_sem] max2_int min2_int max_two min_two max_three min_three max_four min_four
set_option linter.unusedVariables false
set_option linter.unusedSimpArgs false
section
variable {P : Program} {f : FuncId} {fn : Func}
theorem run_call_swap (hf : P.funcs[f]? = some fn) (hname : (fn.name == "runtime.NumGoroutine") = false) (hb : fn.body.isNone = true) (hn : Extern.findNext fn = none) (k : IntKind)
    (he : Extern.find fn = some (Extern.Atomic.swapT (.int k))) {a : Addr} {x y : Int} {w : World} (hc : w.cell? a = some (.int k x)) (hz : w.frozen? a = false) :
    (callFunc f #[.pointer (some a), .int k y]).run P w = .ok (.value (.int k x)) (w.setCell a (.int k y)) := by
  rw [run_callFunc_extern hf hname hb hn he]
  change (Sem.run P (do
    let a' ← asAddr (.pointer (some a))
    let old ← Extern.Atomic.read (.int k) a'
    store a' (.int k y) .atomic
    pure old) w).andThen _ = _
  simp [Extern.Atomic.read, asAddr, hc, hz, run_store P w a (.int k y) .atomic rfl, Result.andThen]
end
abbrev cellsC (g n : Nat) : Array Value := #[.slice (some ⟨g, 0, none⟩) n n]
theorem aLoad (a : Addr) (x : Int) (w : World) (hc : w.cell? a = some (.int .u32 x)) : Calls Tryz.prog 217 #[.pointer (some a)] w fun e w' => e = .returned (.int .u32 x) ∧ w = w' := by
  have hl := run_call_load (P := Tryz.prog) Tryz.func246 (by kernel_rfl) (by kernel_rfl) (by kernel_rfl) .u32 (by kernel_rfl) hc
  go_enter Tryz.func217, Tryz.ntmps217
  go_wp2
  go_ret
  exact ⟨rfl, rfl⟩
theorem aStore (a : Addr) (x y : Int) (w : World) (hc : w.cell? a = some (.int .u32 x)) (hz : w.frozen? a = false) : Calls Tryz.prog 207 #[.pointer (some a), .int .u32 y] w fun e w' => e = .returned (.tuple #[]) ∧ w' = w.setCell a (.int .u32 y) := by
  have hl := run_call_store (P := Tryz.prog) Tryz.func242 (by kernel_rfl) (by kernel_rfl) (by kernel_rfl) (by kernel_rfl) (k := .u32) (y := y) hc hz
  go_enter Tryz.func207, Tryz.ntmps207
  go_wp2
  go_end0
  exact ⟨rfl, rfl⟩
theorem aSwap (a : Addr) (x y : Int) (w : World) (hc : w.cell? a = some (.int .u32 x)) (hz : w.frozen? a = false) : Calls Tryz.prog 218 #[.pointer (some a), .int .u32 y] w fun e w' => e = .returned (.int .u32 x) ∧ w' = w.setCell a (.int .u32 y) := by
  have hl := run_call_swap (P := Tryz.prog) Tryz.func247 (by kernel_rfl) (by kernel_rfl) (by kernel_rfl) .u32 (by kernel_rfl) (y := y) hc hz
  go_enter Tryz.func218, Tryz.ntmps218
  go_wp2
  go_ret
  exact ⟨rfl, rfl⟩
theorem aCas_hit (a : Addr) (x y : Int) (w : World) (hc : w.cell? a = some (.int .u32 x)) (hz : w.frozen? a = false) : Calls Tryz.prog 219 #[.pointer (some a), .int .u32 x, .int .u32 y] w fun e w' => e = .returned (.bool true) ∧ w' = w.setCell a (.int .u32 y) := by
  have hl := run_call_cas_hit (P := Tryz.prog) Tryz.func248 (by kernel_rfl) (by kernel_rfl) (by kernel_rfl) .u32 (by kernel_rfl) (y := y) hc hz
  go_enter Tryz.func219, Tryz.ntmps219
  go_wp2
  go_ret
  exact ⟨rfl, rfl⟩
theorem aAdd (a : Addr) (x y : Int) (w : World) (hc : w.cell? a = some (.int .u32 x)) (hz : w.frozen? a = false) : Calls Tryz.prog 220 #[.pointer (some a), .int .u32 y] w fun e w' => e = .returned (.int .u32 ((x + y) % 4294967296)) ∧ w' = w.setCell a (.int .u32 ((x + y) % 4294967296)) := by
  have hl := run_call_add (P := Tryz.prog) Tryz.func249 (by kernel_rfl) (by kernel_rfl) (by kernel_rfl) .u32 (by kernel_rfl) (y := y) (s := (x + y) % 4294967296) hc hz (by simp [go_sem]; rfl)
  go_enter Tryz.func220, Tryz.ntmps220
  go_wp2
  go_ret
  exact ⟨rfl, rfl⟩
theorem cellNew_calls (n : Nat) (w : World) (h : n ≤ 8192) : Calls Tryz.prog 172 #[.int .i64 (n : Int)] w fun e w' => e = .returned (.tuple #[.pointer (some ⟨w.heap.size + 1, 0, none⟩), .int .i64 0]) ∧ w' = (w.alloc (.cells (zeros n (.int .u32 0)) 314)).alloc (.cells (cellsC w.heap.size n) 310) := by
  have e0 : decide ((n : Int) < 0) = false := decide_eq_false (by omega)
  have e1 : decide (8192 < (n : Int)) = false := decide_eq_false (by omega)
  have hmk := fun (W : World) => run_makeK (P := Tryz.prog) 308 314 (.agg #[.int .u32 0]) 1 4 Tryz.underlying308 (by kernel_rfl) (by decide) n (by omega) W
  have hz : madeCells (Value.agg #[.int .u32 0]).cells (n * 1) = zeros n (.int .u32 0) := madeCells_one _ _
  rw [hz] at hmk
  clear h hz
  go_enter Tryz.func172, Tryz.ntmps172
  go_wp2
  go_ret2
  exact ⟨rfl, rfl⟩
set_option maxHeartbeats 4000000 in
set_option maxRecDepth 100000 in
theorem cStore (b g n i : Nat) (xs : List Int) (v : Int) (w : World) (hb : w.heap[b]? = some (.cells (cellsC g n) 310 (0, 0))) (hg : w.heap[g]? = some (.cells (row32 xs) 314 (0, 0))) (hx : xs.length = n) (hi : i < n) (hn : n ≤ 8192) :
    Calls Tryz.prog 173 #[.pointer (some ⟨b, 0, none⟩), .int .i64 (i : Int), .int .u32 v] w fun e w' => e = .returned (.tuple #[]) ∧ Mod (fun k => k = g) w w' ∧ w'.heap[g]? = some (.cells (row32 (xs.set i (v))) 314 (0, 0)) := by
  have c0 := (blk_cell hb 0).trans rfl
  have ci := (blk_cell hg i).trans (row32_at xs i (by omega))
  have fi := blk_frozen hg i
  have i0 : (0 : Int) ≤ (i : Int) := by omega
  have i1 : (i : Int) < (n : Int) := by omega
  have n1 : (n : Int) ≤ 8192 := by omega
  have HX := Aside0.mk (⟨hb, hg, hx, hi⟩ : w.heap[b]? = some (.cells (cellsC g n) 310 (0, 0)) ∧ w.heap[g]? = some (.cells (row32 xs) 314 (0, 0)) ∧ xs.length = n ∧ i < n)
  have P := Aside0.mk (aStore ⟨g, i, none⟩ _ v w ci fi)
  clear hb hg hx hi hn ci fi
  go_enter Tryz.func173, Tryz.ntmps173
  go_wp2_with (go_at_call 207; refine P.out.mono ?_; rintro e w1 ⟨rfl, rfl⟩)

  go_end0
  exact ⟨rfl, (Mod.refl (fun k => k = g) w).setCell (p := ⟨g, i, none⟩) rfl _, (blk_set HX.out.2.1 i _).trans (by rw [row32_set])⟩
end Go.Proofs.YtjopodnlffaogaaGreatDoor.Tp
end
section
namespace Go.Proofs.YtjopodnlffaogaaGreatDoor.Abs
open Go.RowKit
set_option linter.unusedVariables false
set_option linter.unusedSimpArgs false
set_option maxRecDepth 100000 in
theorem lies98 : liesAt Tryz.prog Tryz.prog.depth 98 (2 / Tryz.prog.cellsOf 98) 0 98 1 = true := by kernel_rfl
theorem info98 : (Tryz.prog.info? 98).map (·.size) = some 2 := by kernel_rfl
set_option maxHeartbeats 1000000 in
set_option maxRecDepth 100000 in
theorem cc_fresh (b : Nat) (w : World) (h0 : w.cell? ⟨b, 0, none⟩ = some (.pointer none)) (hsh : w.shape? b = some (98, 2)) (hfz : w.frozen? ⟨b, 0, none⟩ = false) :
    Calls Tryz.prog 92 #[.pointer (some ⟨b, 0, none⟩)] w fun e w' => e = .returned (.tuple #[]) ∧ w' = w.setCell ⟨b, 0, none⟩ (.pointer (some ⟨b, 0, none⟩)) := by
  obtain ⟨j, hj, hjs⟩ := Option.map_eq_some_iff.1 info98
  go_enter Tryz.func92, Tryz.ntmps92
  go_wp2
  rw [Lib.run_to_unsafe w ⟨b, 0, none⟩ Tryz.underlying96 Tryz.underlying244 hj (by rw [hjs]; decide) hsh (Nat.zero_lt_succ 1)]
  simp only [Result.andThen]
  rw [Oper.upon_value]
  go_wp2
  rw [run_callFunc_extern Tryz.func148 (by kernel_rfl) (by kernel_rfl) (by kernel_rfl) (e := Extern.AbiNoEscape.same) (by kernel_rfl)]
  rw [Lib.run_noEscape]
  simp only [Result.andThen]
  rw [Oper.upon_value]
  go_wp2
  rw [Lib.run_from_unsafe w ⟨b, 0, none⟩ Tryz.underlying244 Tryz.underlying96 hj hsh lies98]
  simp only [Result.andThen]
  rw [Oper.upon_value]
  go_wp2
  go_end0
  exact ⟨rfl, rfl⟩
set_option maxHeartbeats 1000000 in
set_option maxRecDepth 100000 in
theorem cc_used (b : Nat) (w : World) (h0 : w.cell? ⟨b, 0, none⟩ = some (.pointer (some ⟨b, 0, none⟩))) :
    Calls Tryz.prog 92 #[.pointer (some ⟨b, 0, none⟩)] w fun e w' => e = .returned (.tuple #[]) ∧ w' = w := by
  obtain ⟨j, hj, _⟩ := Option.map_eq_some_iff.1 info98
  go_enter Tryz.func92, Tryz.ntmps92
  go_wp2
  rw [Lib.run_neq_ptr_same w _ Tryz.underlying96 hj]
  go_wp2
  go_end0
  exact ⟨rfl, rfl⟩
theorem PL.cons2 {ρ : Rn} {x y u v : Value} {C : Array Value} (h : PL ρ [x, y] C.toList) (hs : C.size = 2) : ∃ cx cy, C = #[cx, cy] ∧ VR ρ x cx ∧ VR ρ y cy := by
  obtain ⟨p, r, h1, h2⟩ := h
  cases h2 with
  | cons hx ht =>
    cases ht with
    | cons hy ht2 =>
      cases ht2
      rename_i cx cy
      refine ⟨cx, cy, ?_, hx, hy⟩
      have hr : r = [] := by
        have hlen := congrArg List.length h1
        simp only [Array.length_toList, hs, List.length_append, List.length_cons, List.length_nil] at hlen
        exact List.eq_nil_of_length_eq_zero (by omega)
      subst hr
      apply Array.toList_inj.1
      simpa using h1
theorem copyCheck_ok : CallOk Tryz.prog 12 (copyCheck 92 98) := by
  intro f args a v a' h ρ w cargs hR hn hg hl
  unfold copyCheck at h
  split at h
  · rename_i b hf
    obtain rfl := Nat.eq_of_beq_eq_true hf
    obtain ⟨c, hc1, hc⟩ : ∃ c, cargs = #[.pointer (some ⟨c, 0, none⟩)] ∧ ρ.blk b = some c := by
      cases hl' : cargs.toList with
      | nil => rw [hl'] at hl; cases hl
      | cons x l =>
        rw [hl'] at hl
        cases hl with
        | cons hv ht =>
          cases ht
          obtain ⟨c, rfl, hc⟩ := hv.ptr_inv
          exact ⟨c, Array.toList_inj.1 (by simpa using hl'), hc⟩
    subst hc1
    split at h
    · rename_i u e hb
      split at h
      · rename_i hq
        simp only [Bool.and_eq_true, nbeq, Nat.blt_eq] at hq
        obtain ⟨rfl, hlt⟩ := hq
        cases h
        obtain ⟨C, fr, g1, g2, g3, g4, g5⟩ := hR.row hb hc
        obtain rfl := g3 (by decide)
        obtain ⟨cx, cy, rfl, hx, hy⟩ := PL.cons2 (u := undef) (v := undef) g2 (g5 rfl)
        have hcx := hx.flat_eq rfl
        subst hcx
        refine (cc_fresh c w (by rw [cell_of_row w c 0 _ 98 _ g1]; rfl) (by unfold World.shape?; rw [g1]; rfl) (frozen_of_row w c 0 _ 98 g1)).mono ?_
        rintro e w' ⟨rfl, rfl⟩
        refine ⟨_, ρ, rfl, .flat rfl, (St.put hR hb hc (by omega) ?_ ?_ (by show (0 : Nat) ≠ 2; decide)).wide (fun _ hf => hf.elim), hn, Nat.le_refl _⟩
        · exact ⟨rfl, rfl, rfl, by simp [World.setCell], fun k _ hk => heap_setCell_other w ⟨c, 0, none⟩ k _ hk⟩
        · have := heap_setCell_same w c 0 _ 98 (.pointer (some ⟨c, 0, none⟩)) g1
          rw [this]
          exact ⟨_, _, rfl, ⟨[.pointer (some ⟨c, 0, none⟩), cy], [], by simp, .cons (.ptr hc) (.cons hy .nil)⟩, fun _ => rfl, (fun h => by cases h), fun _ => by simp⟩
      · cases h
    · rename_i d u e hb
      split at h
      · rename_i hq
        cases h
        obtain rfl := Nat.eq_of_beq_eq_true hq
        obtain ⟨C, fr, g1, g2, g3, g4, g5⟩ := hR.row hb hc
        obtain ⟨cx, cy, rfl, hx, hy⟩ := PL.cons2 (u := undef) (v := undef) g2 (g5 rfl)
        obtain ⟨q, rfl, hq2⟩ := hx.ptr_inv
        rw [hc] at hq2; cases hq2
        refine (cc_used c w (by rw [cell_of_row w c 0 _ e _ g1]; rfl)).mono ?_
        rintro e w' ⟨rfl, rfl⟩
        exact ⟨_, ρ, rfl, .flat rfl, St.refl hR, hn, Nat.le_refl _⟩
      · cases h
    · cases h
  · cases h
theorem or_ok {P : Program} {G : Nat} {I J : Callee} (hI : CallOk P G I) (hJ : CallOk P G J) : CallOk P G (or I J) := by
  intro f args a v a' h
  unfold Abs.or at h
  split at h
  · rename_i r hr
    cases h
    exact hI f args a v a' hr
  · exact hJ f args a v a' h
theorem cellA_ok {P : Program} {ρ : Rn} {a : A} {w : World} (hR : Rel P ρ a w) {b o c : Nat} (hc : ρ.blk b = some c) {v : Value} (h : cellA a b o = some v) : ∃ cv, VR ρ v cv ∧ w.cell? ⟨c, o, none⟩ = some cv := by
  unfold cellA at h
  split at h
  · rename_i cs e m hb
    obtain ⟨C, fr, g1, g2, _⟩ := hR.row hb hc
    obtain ⟨u, hu, hr⟩ := g2.get h
    exact ⟨u, hr, by rw [cell_of_row w c o C e fr g1]; simpa using hu⟩
  · cases h
theorem layOne_ok {P : Program} {ρ : Rn} {a a' : A} {w : World} (hR : Rel P ρ a w) {b o c : Nat} (hc : ρ.blk b = some c) {x y : Value} (hv : VR ρ x y) (h : layAt a b o [x] = some a') : w.frozen? ⟨c, o, none⟩ = false ∧ St P (fun _ => False) ρ a w ρ a' (w.setCell ⟨c, o, none⟩ y) ∧ a'.next = a.next := by
  obtain ⟨w', h1, h2, h3⟩ := layAt_ok hR hc (.cons hv .nil) h
  have h0 := h
  unfold layAt at h
  split at h
  · rename_i cs e m hb
    split at h
    · rename_i cs' hm hone hl
      simp only [List.all_cons, List.all_nil, Bool.and_true, Bool.and_eq_true] at hone
      obtain ⟨C, fr, g1, g2, g3, g4⟩ := hR.row hb hc
      obtain rfl := g3 (fun e => by rw [e] at hm; cases hm)
      have hf := frozen_of_row w c o C e g1
      obtain ⟨h5, h6⟩ := g2.laid (.cons hv .nil) hl
      have hlt : o < C.size := by simp at h6; omega
      have hcell : w.cell? ⟨c, o, none⟩ = some C[o] := by rw [cell_of_row w c o C e _ g1]; simp [hlt]
      refine ⟨hf, ?_, h3⟩
      have hw : w' = w.setCell ⟨c, o, none⟩ y := by
        simp only [storeCells, Sem.run_bind, add_eq, Nat.add_zero] at h1
        rw [run_store P w _ y _ (by rw [hv.one]; exact hone.1), hcell] at h1
        simp only [hf, Bool.false_eq_true, if_false, Result.andThen_ok] at h1
        exact (Result.ok.inj h1).2.symm
      rw [← hw]
      exact h2
    · cases h
  · cases h
theorem LR.ptr_args {ρ : Rn} {b o : Nat} {rest : List Value} {cargs : Array Value} (h : LR ρ (.pointer (some ⟨b, o, none⟩) :: rest) cargs.toList) (hf : flatL rest = true) : ∃ c, cargs = (.pointer (some ⟨c, o, none⟩) :: rest).toArray ∧ ρ.blk b = some c := by
  cases hl' : cargs.toList with
  | nil => rw [hl'] at h; cases h
  | cons x l =>
    rw [hl'] at h
    cases h with
    | cons hv ht =>
      obtain ⟨c, rfl, hc⟩ := hv.ptr_inv
      have := ht.flat_eq hf
      subst this
      exact ⟨c, Array.toList_inj.1 (by simpa using hl'), hc⟩
theorem atom_ok : CallOk Tryz.prog 12 (atomI 217 207 218 219 220) := by
  intro f args a v a' h ρ w cargs hR hn hg hl
  unfold atomI at h
  split at h
  · rename_i b o rest
    split at h
    · split at h
      · rename_i x hx
        split at h
        · split at h
          · rename_i hf
            cases h
            obtain rfl := Nat.eq_of_beq_eq_true hf
            obtain ⟨c, rfl, hc⟩ := hl.ptr_args rfl
            obtain ⟨cv, h1, h2⟩ := cellA_ok hR hc hx
            obtain rfl := h1.int_inv
            refine (Tp.aLoad ⟨c, o, none⟩ x w h2).mono ?_
            rintro e w' ⟨rfl, rfl⟩
            exact ⟨_, ρ, rfl, .flat rfl, St.refl hR, hn, Nat.le_refl _⟩
          · cases h
        · rename_i y
          obtain ⟨c, rfl, hc⟩ := hl.ptr_args rfl
          obtain ⟨cv, h1, h2⟩ := cellA_ok hR hc hx
          obtain rfl := h1.int_inv
          split at h
          · rename_i hf
            obtain rfl := Nat.eq_of_beq_eq_true hf
            split at h
            · rename_i a1 hla
              cases h
              obtain ⟨k1, k2, k3⟩ := layOne_ok hR hc (.flat rfl) hla
              refine (Tp.aStore ⟨c, o, none⟩ x y w h2 k1).mono ?_
              rintro e w' ⟨rfl, rfl⟩
              exact ⟨_, ρ, rfl, .flat rfl, k2.wide (fun _ hf => hf.elim), k3.symm ▸ hn, by omega⟩
            · cases h
          · rename_i hf _
            obtain rfl := Nat.eq_of_beq_eq_true hf
            split at h
            · rename_i a1 hla
              cases h
              obtain ⟨k1, k2, k3⟩ := layOne_ok hR hc (.flat rfl) hla
              refine (Tp.aSwap ⟨c, o, none⟩ x y w h2 k1).mono ?_
              rintro e w' ⟨rfl, rfl⟩
              exact ⟨_, ρ, rfl, .flat rfl, k2.wide (fun _ hf => hf.elim), k3.symm ▸ hn, by omega⟩
            · cases h
          · rename_i hf _ _
            obtain rfl := Nat.eq_of_beq_eq_true hf
            split at h
            · rename_i a1 hla
              cases h
              obtain ⟨k1, k2, k3⟩ := layOne_ok hR hc (.flat rfl) hla
              refine (Tp.aAdd ⟨c, o, none⟩ x y w h2 k1).mono ?_
              rintro e w' ⟨rfl, rfl⟩
              exact ⟨_, ρ, rfl, .flat rfl, k2.wide (fun _ hf => hf.elim), k3.symm ▸ hn, by omega⟩
            · cases h
          · cases h
        · rename_i y z
          obtain ⟨c, rfl, hc⟩ := hl.ptr_args rfl
          obtain ⟨cv, h1, h2⟩ := cellA_ok hR hc hx
          obtain rfl := h1.int_inv
          split at h
          · rename_i hf hxy
            obtain rfl := Nat.eq_of_beq_eq_true hf
            obtain rfl := intEq_eq hxy
            split at h
            · rename_i a1 hla
              cases h
              obtain ⟨k1, k2, k3⟩ := layOne_ok hR hc (.flat rfl) hla
              refine (Tp.aCas_hit ⟨c, o, none⟩ x z w h2 k1).mono ?_
              rintro e w' ⟨rfl, rfl⟩
              exact ⟨_, ρ, rfl, .flat rfl, k2.wide (fun _ hf => hf.elim), k3.symm ▸ hn, by omega⟩
            · cases h
          · cases h
        · cases h
      · cases h
    · cases h
  · cases h
end Go.Proofs.YtjopodnlffaogaaGreatDoor.Abs
end
section
namespace Go.Proofs.YtjopodnlffaogaaGreatDoor.Tp
open Go.RowKit Go.Proofs.YtjopodnlffaogaaGreatDoorW.PrintWords Go.Proofs.YtjopodnlffaogaaGreatDoorW.PrintLast Go.Proofs.YtjopodnlffaogaaGreatDoorW.PrintMore
attribute [local go_sem] max2_int min2_int max_two min_two max_three min_three max_four min_four
set_option linter.unusedVariables false
set_option linter.unusedSimpArgs false
theorem mod_putObj {S : Nat → Prop} {w w1 : World} (h : Mod S w w1) {g : Nat} (hp : S g) (o : Obj) : Mod S w (w1.putObj g o) :=
  h.trans (T := fun k => k = g) ⟨rfl, rfl, rfl, by simp, fun i _ hn => World.putObj_heap_other hn⟩ (fun _ _ he => he ▸ hp)
def SeqCell {α : Type} (F : Fence) (n : Nat) (P : Program) (g : Nat) (lb : Array Value) (b : Nat) (o0 : Obj) (encs : α → Array Value) (xs : List α) : Prop :=
  ∀ (l : Nat) (J : List α → World → Prop) (W : World), W.heap[b]? = some o0 → (∀ s A B, J s A → Mod (fun k => k = b) A B → J s B) →
    (∀ pre x W1, J pre W1 → pre ++ [x] <+: xs → YieldAt F (n - 1) P l (encs x) W1 fun e W' => e = .returned (.bool true) ∧ J (pre ++ [x]) W' ∧ W'.heap[b]? = W1.heap[b]?) →
    J [] W → CallsIn F n P g (#[.func (.yield l) #[] #[]] ++ lb) W fun e W' => (∃ v, e = .returned v) ∧ J xs W'
def roundOn {α : Type} (b D : Nat) (I : List α → World → Prop) (xs : List α) (W : World) : Exit → Act → World → Prop
  | .normal, _, W' => (∀ k, k = b ∨ k = D ∨ k = D + 1 → W'.heap[k]? = W.heap[k]?) ∧ I xs W'
  | _, _, _ => False
theorem wpIn_rangeCell {F : Fence} {n : Nat} {P : Program} {α : Type} {g : Operand} {ps : Array Tmp} {assign body : Code} {Q : Exit → Act → World → Prop} {a : Act} {w : World}
    (hro : F.round = none) (h1 : 1 ≤ n) {gf : Nat} {lb : Array Value} (hg : a.eval g = .func (.func gf) #[] lb) (hFg : F.fn gf) (eg : ∀ args w, (callFunc gf args).run P w = .ok (.enter gf args) w)
    {b : Nat} {o0 : Obj} {encs : α → Array Value} {xs : List α} (hseq : SeqCell F (n - 1) P gf lb b o0 encs xs) (hb : w.heap[b]? = some o0) (hps : ∀ x, (encs x).size = ps.size)
    (I : List α → World → Prop) (hI : ∀ s A B, I s A → Mod (fun k => k = b ∨ k = w.heap.size ∨ k = w.heap.size + 1) A B → I s B) (h0 : I [] w) (a₁ : α → Act)
    (hassign : ∀ (l : Nat) (x : α) (W : World) (K : Act → World → Prop), K (a₁ x) W →
      assign.wpIn (F.inRound l) (n - 1 - 1) P (Exit.then K (fun _ _ _ => False)) { tmps := (ps.zip (encs x)).foldl (fun t (p, v) => t.setIfInBounds p v) a.tmps, defers := [] } W)
    (hbody : ∀ (l : Nat) (pre : List α) (x : α) (W : World), I pre W → pre ++ [x] <+: xs → w.heap.size + 1 < W.heap.size → body.wpIn (F.inRound l) (n - 1 - 1) P (roundOn b w.heap.size I (pre ++ [x]) W) (a₁ x) W)
    (hdone : ∀ (W : World), I xs W → W.heap[w.heap.size]? = some (.deferred (some [])) → Q .normal { a with defers := { target := .collected w.heap.size, args := #[] } :: a.defers } W) :
    (Code.rangeFunc g ps assign body).wpIn F n P Q a w := by
  refine wpIn_rangeFunc ?_
  intro fn hfn
  rw [hro]
  have hbs : b < w.heap.size := blk_lt hb
  obtain ⟨D, hD⟩ : ∃ D, D = w.heap.size := ⟨_, rfl⟩
  rw [← hD] at hI hbody hdone hbs
  obtain ⟨rec, hrec⟩ : ∃ rec : LoopState → Loop, rec = fun st => { state := st, pending := none, fn, tmps := a.tmps, params := ps, assign, body, defers := D } := ⟨_, rfl⟩
  obtain ⟨W1, hW1⟩ : ∃ W1, (w.alloc (.deferred (some []))).alloc (.loop (rec .ready)) = W1 := ⟨_, rfl⟩
  have hm1 : Mod (fun k => k = b ∨ k = D ∨ k = D + 1) w W1 := by rw [← hW1]; exact ((Mod.refl _ w).alloc _).alloc _
  have hL1 : W1.heap[D + 1]? = some (.loop (rec .ready)) := by
    rw [← hW1, hD]; have := World.alloc_heap_new (w.alloc (.deferred (some []))) (.loop (rec .ready)); rwa [World.size_alloc] at this
  have hK1 : W1.heap[D]? = some (.deferred (some [])) := by
    rw [← hW1, hD]; exact (Below.heap_alloc _ _ _ (by simp)).trans (World.alloc_heap_new w _)
  have hB1 : W1.heap[b]? = some o0 := by
    rw [← hW1]; exact (Below.heap_alloc _ _ _ (by simp; omega)).trans ((Below.heap_alloc _ _ _ (by omega)).trans hb)
  refine ⟨D + 1, [{ target := .collected D, args := #[] }], W1, { target := .fn (.func gf) lb, args := #[.func (.yield (D + 1)) #[] #[]] }, W1, gf,
    #[.func (.yield (D + 1)) #[] #[]] ++ lb, W1, ?_, ?_, ?_, ?_, fun _ => h1, ?_⟩
  · rw [← hW1, hrec, hD]; exact run_enterLoop_outer _ _ _ _ _
  · simp only [resolve, hg]
    simp [go_sem]
  · intro f' hf'; simp [Target.leads] at hf'; subst hf'; exact hFg
  · simp [invoke, go_sem, eg]
  refine (hseq (D + 1) (fun pre W => I pre W ∧ W.heap[D + 1]? = some (.loop (rec .ready)) ∧ W.heap[D]? = some (.deferred (some []))) W1 hB1
    (fun s A B hs hm => ⟨hI s A B hs.1 (hm.mono (fun _ _ h => .inl h)), (hm.block _ (blk_lt hs.2.1) (by omega)).trans hs.2.1, (hm.block _ (blk_lt hs.2.2) (by omega)).trans hs.2.2⟩) ?_
    ⟨hI _ _ _ h0 hm1, hL1, hK1⟩).mono ?_
  · rintro pre x W ⟨hi, hl, hk⟩ hpre
    have hlt : D + 1 < W.heap.size := blk_lt hl
    have hy := run_yield (P := P) (args := encs x) hl (by rw [hrec]; exact hps x)
    rw [hrec] at hy
    refine ⟨fn, _, assign, body, hy, roundIn_of_wpIn hfn (hassign _ x W _ ⟨_, run_beginRound hl (by rw [hrec]), ?_⟩)⟩
    have hm2 : Mod (fun k => k = b ∨ k = D ∨ k = D + 1) W (W.putObj (D + 1) (.loop { rec .ready with state := .busy })) := mod_putObj (Mod.refl _ W) (.inr (.inr rfl)) _
    have hl2 : (W.putObj (D + 1) (.loop { rec .ready with state := .busy })).heap[D + 1]? = some (.loop { rec .ready with state := .busy }) := World.putObj_heap_same hlt
    have hk2 : (W.putObj (D + 1) (.loop { rec .ready with state := .busy })).heap[D]? = some (.deferred (some [])) := (World.putObj_heap_other (by omega)).trans hk
    have hb2 : (W.putObj (D + 1) (.loop { rec .ready with state := .busy })).heap[b]? = W.heap[b]? := World.putObj_heap_other (by omega)
    refine wpIn_mono (hbody _ pre x _ (hI _ _ _ hi hm2) hpre (by simpa using hlt)) ?_
    rintro e a3 W3 hp
    cases e with
    | normal =>
      obtain ⟨hkeep, hi3⟩ := hp
      have hl3 := (hkeep (D + 1) (.inr (.inr rfl))).trans hl2
      have hr := run_endRound (P := P) none hl3
      have hm3 : Mod (fun k => k = b ∨ k = D ∨ k = D + 1) W3 (W3.putObj (D + 1) (.loop { { rec .ready with state := .busy } with state := .ready, pending := none })) := mod_putObj (Mod.refl _ W3) (.inr (.inr rfl)) _
      refine ⟨_, _, hr, rfl, ⟨hI _ _ _ hi3 hm3, ?_, ?_⟩, ?_⟩
      · exact (World.putObj_heap_same (blk_lt hl3)).trans (by rw [hrec]; rfl)
      · exact (World.putObj_heap_other (by omega)).trans ((hkeep D (.inr (.inl rfl))).trans hk2)
      · exact (World.putObj_heap_other (by omega)).trans ((hkeep b (.inl rfl)).trans hb2)
    | ret => exact hp.elim
    | exit id => exact hp.elim
    | goto t => exact hp.elim
    | panic ch => exact hp.elim
    | outgrown => exact hp.elim
  · rintro e W2 ⟨⟨v, rfl⟩, hi, hl, hk⟩
    have hr := run_endLoop (P := P) hl (by rw [hrec]; simp)
    rw [hrec] at hr
    exact ⟨none, _, hr, hdone _ (hI _ _ _ hi (mod_putObj (Mod.refl _ W2) (.inr (.inr rfl)) _)) ((World.putObj_heap_other (by omega)).trans hk)⟩
end Go.Proofs.YtjopodnlffaogaaGreatDoor.Tp
end
section
namespace Go.Proofs
open Go.Shelf
def Tryz.lays171_ren : Go.Shelf.Ren := ⟨fun | 171 => 155 | 243 => 198 | 246 => 231 | 283 => 252 | 284 => 253 | 285 => 254 | 286 => 255 | 129 => 273 | 317 => 272 | 318 => 274 | 319 => 275 | 320 => 276 | 337 => 287 | 338 => 288 | n => n, fun | 3 => 3 | 9 => 9 | 2 => 2 | 4 => 4 | 171 => 351 | 0 => 0 | 53 => 352 | 37 => 57 | 5 => 5 | 173 => 355 | 212 => 367 | 51 => 22 | 20 => 20 | 213 => 368 | 46 => 307 | 232 => 390 | 233 => 391 | n => n, fun | 17 => 5 | 18 => 10 | 19 => 11 | n => n⟩
theorem Tryz.lays171 : Go.Proofs.Lays.n171 Tryz.prog Tryz.lays171_ren := {
  mixed := by kernel_rfl
  f129 := Tryz.func273.trans (congrArg some (by kernel_rfl))
  f171 := Tryz.func155.trans (congrArg some (by kernel_rfl))
  f243 := Tryz.func198.trans (congrArg some (by kernel_rfl))
  f246 := Tryz.func231.trans (congrArg some (by kernel_rfl))
  f283 := Tryz.func252.trans (congrArg some (by kernel_rfl))
  f284 := Tryz.func253.trans (congrArg some (by kernel_rfl))
  f285 := Tryz.func254.trans (congrArg some (by kernel_rfl))
  f286 := Tryz.func255.trans (congrArg some (by kernel_rfl))
  f317 := Tryz.func272.trans (congrArg some (by kernel_rfl))
  f318 := Tryz.func274.trans (congrArg some (by kernel_rfl))
  f319 := Tryz.func275.trans (congrArg some (by kernel_rfl))
  f320 := Tryz.func276.trans (congrArg some (by kernel_rfl))
  f337 := Tryz.func287.trans (congrArg some (by kernel_rfl))
  f338 := Tryz.func288.trans (congrArg some (by kernel_rfl))
  t0 := Tryz.underlying0
  a0 := Tryz.isAgg0
  z0 := Tryz.sizeOf0
  v0 := Tryz.zeroValue0
  t2 := Tryz.underlying2
  a2 := Tryz.isAgg2
  z2 := Tryz.sizeOf2
  v2 := Tryz.zeroValue2
  t3 := Tryz.underlying3
  a3 := Tryz.isAgg3
  z3 := Tryz.sizeOf3
  v3 := Tryz.zeroValue3
  t4 := Tryz.underlying4
  a4 := Tryz.isAgg4
  z4 := Tryz.sizeOf4
  v4 := Tryz.zeroValue4
  t5 := Tryz.underlying5
  a5 := Tryz.isAgg5
  z5 := Tryz.sizeOf5
  v5 := Tryz.zeroValue5
  t9 := Tryz.underlying9
  a9 := Tryz.isAgg9
  z9 := Tryz.sizeOf9
  v9 := Tryz.zeroValue9
  t20 := Tryz.underlying20
  a20 := Tryz.isAgg20
  z20 := Tryz.sizeOf20
  v20 := Tryz.zeroValue20
  t37 := Tryz.underlying57
  a37 := Tryz.isAgg57
  z37 := Tryz.sizeOf57
  v37 := Tryz.zeroValue57
  t46 := Tryz.underlying307
  a46 := Tryz.isAgg307
  z46 := Tryz.sizeOf307
  v46 := Tryz.zeroValue307
  t51 := Tryz.underlying22
  a51 := Tryz.isAgg22
  z51 := Tryz.sizeOf22
  v51 := Tryz.zeroValue22
  t53 := Tryz.underlying352
  a53 := Tryz.isAgg352
  z53 := Tryz.sizeOf352
  v53 := Tryz.zeroValue352
  t171 := Tryz.underlying351
  a171 := Tryz.isAgg351
  z171 := Tryz.sizeOf351
  v171 := Tryz.zeroValue351
  t173 := Tryz.underlying355
  a173 := Tryz.isAgg355
  z173 := Tryz.sizeOf355
  v173 := Tryz.zeroValue355
  t212 := Tryz.underlying367
  a212 := Tryz.isAgg367
  z212 := Tryz.sizeOf367
  v212 := Tryz.zeroValue367
  t213 := Tryz.underlying368
  a213 := Tryz.isAgg368
  z213 := Tryz.sizeOf368
  t232 := Tryz.underlying390
  a232 := Tryz.isAgg390
  z232 := Tryz.sizeOf390
  v232 := Tryz.zeroValue390
  t233 := Tryz.underlying391
  a233 := Tryz.isAgg391
  z233 := Tryz.sizeOf391
  v233 := Tryz.zeroValue391
  g17 := by kernel_rfl
  g18 := by kernel_rfl
  g19 := by kernel_rfl }
open Go.RowKit Go.Sort Go.Lib in
theorem Tryz.strconv_Itoa_small (i : Nat) (hi : i < 100) (w : World) :
    Calls Tryz.prog 155 #[.int .i64 i] w fun e w' => e = .returned (.string ⟨(Lib.decDigits i).toArray⟩) ∧ w' = w := Any.strconv_Itoa_small Tryz.lays171 i hi w
def Tryz.lays155_ren : Go.Shelf.Ren := ⟨fun | 155 => 205 | 154 => 241 | 138 => 200 | 165 => 269 | 143 => 201 | 166 => 46 | 197 => 233 | 169 => 49 | 195 => 232 | 218 => 234 | 240 => 92 | 241 => 286 | 219 => 235 | 260 => 256 | 276 => 148 | 277 => 294 | 217 => 146 | 225 => 257 | 224 => 258 | 267 => 259 | 266 => 193 | 314 => 277 | n => n, fun | 9 => 9 | 3 => 3 | 4 => 4 | 72 => 98 | 0 => 0 | 76 => 105 | 105 => 335 | 21 => 21 | 5 => 5 | 70 => 96 | 20 => 20 | 37 => 57 | 75 => 104 | 127 => 179 | 164 => 244 | 46 => 307 | 119 => 370 | 139 => 373 | 138 => 372 | 146 => 374 | 51 => 22 | 80 => 109 | n => n, fun | 1 => 3 | 3 => 6 | 4 => 7 | n => n⟩
theorem Tryz.lays155 : Go.Proofs.Lays.n155 Tryz.prog Tryz.lays155_ren := {
  mixed := by kernel_rfl
  f138 := Tryz.func200.trans (congrArg some (by kernel_rfl))
  f143 := Tryz.func201.trans (congrArg some (by kernel_rfl))
  f154 := Tryz.func241.trans (congrArg some (by kernel_rfl))
  f155 := Tryz.func205.trans (congrArg some (by kernel_rfl))
  f165 := Tryz.func269.trans (congrArg some (by kernel_rfl))
  f166 := Tryz.func46.trans (congrArg some (by kernel_rfl))
  f169 := Tryz.func49.trans (congrArg some (by kernel_rfl))
  f195 := Tryz.func232.trans (congrArg some (by kernel_rfl))
  f197 := Tryz.func233.trans (congrArg some (by kernel_rfl))
  f217 := Tryz.func146.trans (congrArg some (by kernel_rfl))
  f218 := Tryz.func234.trans (congrArg some (by kernel_rfl))
  f219 := Tryz.func235.trans (congrArg some (by kernel_rfl))
  f224 := Tryz.func258.trans (congrArg some (by kernel_rfl))
  f225 := Tryz.func257.trans (congrArg some (by kernel_rfl))
  f240 := Tryz.func92.trans (congrArg some (by kernel_rfl))
  f241 := Tryz.func286.trans (congrArg some (by kernel_rfl))
  f260 := Tryz.func256.trans (congrArg some (by kernel_rfl))
  f266 := Tryz.func193.trans (congrArg some (by kernel_rfl))
  f267 := Tryz.func259.trans (congrArg some (by kernel_rfl))
  f276 := Tryz.func148.trans (congrArg some (by kernel_rfl))
  f277 := Tryz.func294.trans (congrArg some (by kernel_rfl))
  f314 := Tryz.func277.trans (congrArg some (by kernel_rfl))
  t0 := Tryz.underlying0
  a0 := Tryz.isAgg0
  z0 := Tryz.sizeOf0
  v0 := Tryz.zeroValue0
  t3 := Tryz.underlying3
  a3 := Tryz.isAgg3
  z3 := Tryz.sizeOf3
  v3 := Tryz.zeroValue3
  t4 := Tryz.underlying4
  a4 := Tryz.isAgg4
  z4 := Tryz.sizeOf4
  v4 := Tryz.zeroValue4
  t5 := Tryz.underlying5
  a5 := Tryz.isAgg5
  z5 := Tryz.sizeOf5
  v5 := Tryz.zeroValue5
  t9 := Tryz.underlying9
  a9 := Tryz.isAgg9
  z9 := Tryz.sizeOf9
  v9 := Tryz.zeroValue9
  t20 := Tryz.underlying20
  a20 := Tryz.isAgg20
  z20 := Tryz.sizeOf20
  v20 := Tryz.zeroValue20
  t21 := Tryz.underlying21
  a21 := Tryz.isAgg21
  z21 := Tryz.sizeOf21
  v21 := Tryz.zeroValue21
  t37 := Tryz.underlying57
  a37 := Tryz.isAgg57
  z37 := Tryz.sizeOf57
  v37 := Tryz.zeroValue57
  t46 := Tryz.underlying307
  a46 := Tryz.isAgg307
  z46 := Tryz.sizeOf307
  v46 := Tryz.zeroValue307
  t51 := Tryz.underlying22
  a51 := Tryz.isAgg22
  z51 := Tryz.sizeOf22
  v51 := Tryz.zeroValue22
  t70 := Tryz.underlying96
  a70 := Tryz.isAgg96
  z70 := Tryz.sizeOf96
  v70 := Tryz.zeroValue96
  t72 := Tryz.underlying98
  a72 := Tryz.isAgg98
  z72 := Tryz.sizeOf98
  v72 := Tryz.zeroValue98
  t75 := Tryz.underlying104
  a75 := Tryz.isAgg104
  z75 := Tryz.sizeOf104
  v75 := Tryz.zeroValue104
  t76 := Tryz.underlying105
  a76 := Tryz.isAgg105
  z76 := Tryz.sizeOf105
  v76 := Tryz.zeroValue105
  t105 := Tryz.underlying335
  a105 := Tryz.isAgg335
  z105 := Tryz.sizeOf335
  v105 := Tryz.zeroValue335
  t119 := Tryz.underlying370
  a119 := Tryz.isAgg370
  z119 := Tryz.sizeOf370
  t127 := Tryz.underlying179
  a127 := Tryz.isAgg179
  z127 := Tryz.sizeOf179
  v127 := Tryz.zeroValue179
  t138 := Tryz.underlying372
  a138 := Tryz.isAgg372
  z138 := Tryz.sizeOf372
  v138 := Tryz.zeroValue372
  t139 := Tryz.underlying373
  a139 := Tryz.isAgg373
  z139 := Tryz.sizeOf373
  v139 := Tryz.zeroValue373
  t146 := Tryz.underlying374
  a146 := Tryz.isAgg374
  z146 := Tryz.sizeOf374
  v146 := Tryz.zeroValue374
  t164 := Tryz.underlying244
  a164 := Tryz.isAgg244
  z164 := Tryz.sizeOf244
  v164 := Tryz.zeroValue244
  g1 := by kernel_rfl
  g3 := by kernel_rfl
  g4 := by kernel_rfl }
theorem Tryz.Builder_Extra_155 : Builder.Extra Tryz.prog Tryz.lays155_ren := {
  sizeBuilder := by kernel_rfl
  liesBuilder := by kernel_rfl
  t5 := Tryz.underlying5
  a5 := Tryz.isAgg5
  z5 := Tryz.sizeOf5
  v5 := Tryz.zeroValue5
  infoByte := by kernel_rfl
  cellsByte := by kernel_rfl
  sizeByte := by kernel_rfl
  neB5 := by decide }
open Go.RowKit Go.Lib in
theorem Tryz.strings_ReplaceAll (s old new : ByteArray) (m : Int) (w : World) (hs : s.size < 4294967281) (hm : w.cell? ⟨3, 0, none⟩ = some (.int .i64 m)) (h1 : 1 ≤ old.size) (hlen : s.size + Lib.countB s old * new.size ≤ 140737488355328) :
    Calls Tryz.prog 205 #[.string s, .string old, .string new] w fun e w' =>
      e = .returned (.string ⟨(Lib.replaceAll s.data.toList old.data.toList new.data.toList).toArray⟩) ∧ Below w.heap.size w w' := Any.strings_ReplaceAll Tryz.lays155 Tryz.Builder_Extra_155 s old new m w hs hm h1 hlen
def Tryz.lays137_ren : Go.Shelf.Ren := ⟨fun | 137 => 90 | 217 => 146 | 266 => 193 | n => n, fun | 9 => 9 | 5 => 5 | 3 => 3 | n => n, fun | n => n⟩
theorem Tryz.lays137 : Go.Proofs.Lays.n137 Tryz.prog Tryz.lays137_ren := {
  mixed := by kernel_rfl
  f137 := Tryz.func90.trans (congrArg some (by kernel_rfl))
  f217 := Tryz.func146.trans (congrArg some (by kernel_rfl))
  f266 := Tryz.func193.trans (congrArg some (by kernel_rfl))
  t3 := Tryz.underlying3
  a3 := Tryz.isAgg3
  z3 := Tryz.sizeOf3
  v3 := Tryz.zeroValue3
  t5 := Tryz.underlying5
  a5 := Tryz.isAgg5
  z5 := Tryz.sizeOf5
  v5 := Tryz.zeroValue5
  t9 := Tryz.underlying9
  a9 := Tryz.isAgg9
  z9 := Tryz.sizeOf9
  v9 := Tryz.zeroValue9 }
open Go.RowKit in
theorem Tryz.strings_IndexByte (s : ByteArray) (c : Int) (w : World) :
    Calls Tryz.prog 90 #[.string s, .int .u8 c] w fun e w' => e = .returned (.int .i64 (Lib.indexByte s.data.toList c.toNat.toUInt8)) ∧ w' = w := Any.strings_IndexByte Tryz.lays137 s c w
end Go.Proofs
end
section
namespace Go.Proofs.YtjopodnlffaogaaGreatDoor.Tp
open Go.RowKit Go.Proofs.YtjopodnlffaogaaGreatDoorW.PrintWords Go.Proofs.YtjopodnlffaogaaGreatDoorW.PrintLast Go.Proofs.YtjopodnlffaogaaGreatDoorW.PrintMore
attribute [local go_sem] max2_int min2_int max_two min_two max_three min_three max_four min_four
set_option linter.unusedVariables false
set_option linter.unusedSimpArgs false
attribute [local go_sem] Oper.semAt_some
def catL (xs : List (List UInt8)) : List UInt8 := xs.flatMap (· ++ [10])
def bytesL (l : List UInt8) : ByteArray := ⟨l.toArray⟩
def lineV (l : List UInt8) : Value := .string (bytesL (l ++ [10]))
theorem catL_cons (x : List UInt8) (xs : List (List UInt8)) : catL (x :: xs) = x ++ [10] ++ catL xs := rfl
theorem index_cat : ∀ (x r : List UInt8), 10 ∉ x → Lib.indexByte (x ++ [10] ++ r) 10 = x.length
  | [], r, _ => by simp [Lib.indexByte]
  | c :: x, r, h => by
    have h1 : (c == 10) = false := by
      rw [beq_eq_false_iff_ne]
      rintro rfl
      exact h (by simp)
    have ih := index_cat x r (fun hm => h (by simp [hm]))
    simp only [List.cons_append]
    rw [Lib.indexByte, h1, ih]
    have h2 : ((x.length : Int) == -1) = false := by rw [beq_eq_false_iff_ne]; omega
    simp [h2]
set_option maxHeartbeats 4000000 in
set_option maxRecDepth 100000 in
theorem lines_seq (n : Nat) (hn : 3 ≤ n) (b : Nat) (xs : List (List UInt8)) (hx : ∀ x ∈ xs, 10 ∉ x) (hs : (catL xs).length < 1000000) :
    SeqCell Fence.wide n Tryz.prog 89 #[.pointer (some ⟨b, 0, none⟩)] b (.cells #[.string (bytesL (catL xs))] 9 (0, 0)) (fun l => #[lineV l]) xs := by
  intro l J W hb hJ hY h0
  refine callsIn_of_wp Tryz.func89 rfl trivial ?_ rfl
  simp only [Tryz.ntmps89, List.size_toArray, List.length_cons, List.length_nil, Nat.reduceAdd, Nat.reduceSub, Array.replicate_succ, Array.replicate_zero, List.push_toArray, List.append_toArray, List.nil_append, List.cons_append]
  have HX := Aside0.mk hx
  have HS := Aside0.mk hs
  have HY := Aside0.mk hY
  have HJ := Aside0.mk hJ
  clear hx hs hY hJ
  gi_wp2
  gi_loopw [] (fun wr => ∃ (pre rest : List (List UInt8)), xs = pre ++ rest ∧ Aside0 (wr.heap[b]? = some (.cells #[.string (bytesL (catL rest))] 9 (0, 0))) ∧ Aside0 (J pre wr)) (fun wr => (match wr.cell? ⟨b, 0, none⟩ with | some (.string s) => s.size | _ => 0))
  case atStart => exact ⟨[], xs, rfl, ⟨hb⟩, ⟨h0⟩⟩
  case round =>
    obtain ⟨pre, rest, hxe, B0, J0⟩ := hrel
    have c0 := (blk_cell B0.out 0).trans rfl
    have fz := blk_frozen B0.out 0
    cases rest with
    | nil =>
      have z : (bytesL (catL [])).size = 0 := rfl
      gi_wp2
      go_end0
      exact ⟨⟨_, rfl⟩, by rw [hxe, List.append_nil]; exact J0.out⟩
    | cons x rest =>
      have hm : 10 ∉ x := HX.out x (by rw [hxe]; simp)
      have hsz : (bytesL (catL (x :: rest))).size = x.length + 1 + (catL rest).length := by rw [catL_cons]; simp [bytesL, ByteArray.size]; omega
      have hlen : x.length + 1 + (catL rest).length < 1000000 := by
        have h2 := HS.out
        rw [hxe] at h2
        simp [catL] at h2 ⊢
        omega
      have hidx : Lib.indexByte (bytesL (catL (x :: rest))).data.toList (10 : Int).toNat.toUInt8 = (x.length : Int) := by
        rw [catL_cons]
        exact index_cat x (catL rest) hm
      have e0 : decide ((0 : Int) < (x.length : Int) + 1 + ((catL rest).length : Int)) = true := decide_eq_true (by omega)
      have e1 : decide ((0 : Int) ≤ (x.length : Int)) = true := decide_eq_true (by omega)
      gi_wp2_with (refine ⟨trivial, (fun _ => by omega), ?_⟩; gi_at_call 90; refine (callsIn_wide.2 (Tryz.strings_IndexByte _ _ _)).mono ?_; rintro e w1 ⟨rfl, rfl⟩; rw [hidx])
      gi_region
      have x1 : (bytesL (catL (x :: rest))).extract 0 (x.length + 1) = bytesL (x ++ [10]) := by
        rw [catL_cons]; apply ByteArray.ext; simp [bytesL, ByteArray.data_extract]
        rw [show x ++ 10 :: catL rest = (x ++ [10]) ++ catL rest by simp]
        exact List.take_left' (by simp)
      have x2 : (bytesL (catL (x :: rest))).extract (x.length + 1) (x.length + 1 + (catL rest).length) = bytesL (catL rest) := by
        rw [catL_cons]; apply ByteArray.ext; simp [bytesL, ByteArray.data_extract]
      rw [x1, x2]
      clear x1 x2
      have m2 : Mod (fun k => k = b) w1 (w1.setCell ⟨b, 0, none⟩ (.string (bytesL (catL rest)))).drew := (Mod.setCell (S := fun k => k = b) (Mod.refl _ w1) (p := ⟨b, 0, none⟩) rfl _).drew
      have B2 := Aside0.mk (show (w1.setCell ⟨b, 0, none⟩ (.string (bytesL (catL rest)))).drew.heap[b]? = some (.cells #[.string (bytesL (catL rest))] 9 (0, 0)) from (blk_set B0.out 0 _).trans rfl)
      have J2 := Aside0.mk (HJ.out _ _ _ J0.out m2)
      have hsz2 : (bytesL (catL rest)).size = (catL rest).length := by simp [bytesL, ByteArray.size]
      clear m2 B0 J0 fz e0 e1 hidx
      have hms : (match w1.cell? ⟨b, 0, none⟩ with | some (.string s) => s.size | _ => 0) = x.length + 1 + (catL rest).length := by rw [c0, ← hsz]; rfl
      generalize (w1.setCell ⟨b, 0, none⟩ (.string (bytesL (catL rest)))).drew = w2 at B2 J2 ⊢
      obtain ⟨fn, tmps, assign, body, hy, hR⟩ := HY.out pre x w2 J2.out (by rw [hxe]; exact ⟨rest, by simp⟩)
      have HR := Aside0.mk hR
      unfold lineV at hy
      clear hR
      gi_wp2_with (refine ⟨(fun _ => by omega), HR.out.mono ?_⟩; rintro e w3 ⟨rfl, hJ3, hk3⟩)
      have B3 := Aside0.mk (hk3.trans B2.out)
      have c3 : w3.cell? ⟨b, 0, none⟩ = some (.string (bytesL (catL rest))) := (blk_cell B3.out 0).trans rfl
      go_roundw
      case rel => exact ⟨pre ++ [x], rest, by rw [hxe]; simp, B3, ⟨hJ3⟩⟩
      case measure =>
        rw [hms, c3]
        show (bytesL (catL rest)).size < _
        omega
end Go.Proofs.YtjopodnlffaogaaGreatDoor.Tp
end
section
namespace Go.Proofs.YtjopodnlffaogaaGreatDoor.Abs
open Go.RowKit
set_option linter.unusedVariables false
set_option linter.unusedSimpArgs false
def noDefer (ops : Array Oper) : Bool := ops.all fun o => match o.op with
  | .defer _ => false
  | _ => true
theorem op_defer {ops : Array Oper} (h : noDefer ops = true) {o : Oper} (ho : o ∈ ops.toList) : ∀ c, o.op ≠ .defer c := by
  intro c hc
  have := Array.all_eq_true_iff_forall_mem.1 h o (by simpa using ho)
  rw [hc] at this
  cases this
noncomputable def codeB (P : Program) (call : Callee) (c : Code) : C :=
  Code.rec (motive := fun _ => C) (fun t a => some (.normal, t, a)) (fun _ ops draw => bif draw || !noDefer ops then fun _ _ => none else cRegion P call ops false) (fun _ _ x y => cSeq x y) (fun c _ _ x y => cCond c x y) (fun id _ x => cBlock id x)
    (fun _ _ _ _ => none) (fun _ _ _ _ _ _ _ _ => none) (fun id t a => some (.exit id, t, a)) (fun _ _ _ _ => none) (fun _ t a => none) (fun _ _ _ => none) (fun t a => none) (fun _ _ _ => none) c
section
variable {P : Program} {l n : Nat} {ρ : Rn} {a : A} {w : World} {o : Oper} {c : Act} {K : Act → World → Prop} {Q : Exit → Act → World → Prop}
theorem in_value {v : Value} {w' : World} (hd : ∀ c, o.op ≠ .defer c) (h : (execOp c.eval o).run P w = .ok (.value v) w') (hK : K (c.put o.dst v) w') : o.wpIn (Fence.wide.inRound l) n P c w K Q := by
  refine ⟨fun _ _ => trivial, ?_⟩
  show o.uponIn _ n P c K Q ((Oper.semAt (some l) c.eval o).run P w)
  rw [Oper.semAt_some l c.eval o hd, h]
  exact hK
theorem in_skip {w' : World} (hd : ∀ c, o.op ≠ .defer c) (h : (execOp c.eval o).run P w = .ok .skip w') (hK : K (c.put o.dst undef) w') : o.wpIn (Fence.wide.inRound l) n P c w K Q := by
  refine ⟨fun _ _ => trivial, ?_⟩
  show o.uponIn _ n P c K Q ((Oper.semAt (some l) c.eval o).run P w)
  rw [Oper.semAt_some l c.eval o hd, h]
  exact hK
theorem EOk.pu_in {v : Value} (hd : ∀ c, o.op ≠ .defer c) (h : EOk P ρ a w (execOp c.eval o) (.pu v)) (hK : ∀ cv, VR ρ v cv → K (c.put o.dst cv) w) : o.wpIn (Fence.wide.inRound l) n P c w K Q := by
  obtain ⟨cv, h1, h2⟩ := h
  exact in_value hd (h2 w) (hK cv h1)
theorem EOk.rd_in {v : Value} {fs : Facts} (hd : ∀ c, o.op ≠ .defer c) (h : EOk P ρ a w (execOp c.eval o) (.rd v fs)) (hK : ∀ cv, VR ρ v cv → K (c.put o.dst cv) w) : o.wpIn (Fence.wide.inRound l) n P c w K Q := by
  obtain ⟨cv, L, h1, h2, h3, h4⟩ := h
  exact in_value hd (h4 w h3) (hK cv h1)
theorem EOk.act_in {v : Value} {a' : A} (hd : ∀ c, o.op ≠ .defer c) (h : EOk P ρ a w (execOp c.eval o) (.act v a')) (hK : ∀ cv w' σ, VR σ v cv → St P (fun b => b = a.next) ρ a w σ a' w' → (a'.next = a.next ∧ σ = ρ ∨ a'.next = a.next + 1) → K (c.put o.dst cv) w') : o.wpIn (Fence.wide.inRound l) n P c w K Q := by
  obtain ⟨n, cv, w', σ, h1, h2, h3, h4, h5⟩ := h
  rcases h2 with rfl | ⟨rfl, rfl⟩
  · exact in_value hd h1 (hK cv w' σ h3 h4 h5)
  · exact in_skip hd h1 (hK _ w' σ h3 h4 h5)
theorem EOk.cl_in {f : FuncId} {args : List Value} (hd : ∀ c, o.op ≠ .defer c) (h : EOk P ρ a w (execOp c.eval o) (.cl f args)) (hK : ∀ cargs : Array Value, LR ρ args cargs.toList → Calls P f cargs w fun e w' => ∃ cv, e = .returned cv ∧ K (c.put o.dst cv) w') : o.wpIn (Fence.wide.inRound l) n P c w K Q := by
  obtain ⟨cargs, h1, h2⟩ := h
  refine ⟨fun _ _ => trivial, ?_⟩
  show o.uponIn _ n P c K Q ((Oper.semAt (some l) c.eval o).run P w)
  rw [Oper.semAt_some l c.eval o hd, h2 w]
  rw [Oper.uponIn_enter]
  refine ⟨fun h => Bool.noConfusion (show false = true from h), ?_⟩
  have hk : CallsIn Fence.wide (n - 1) P f cargs w fun e w' => ∃ cv, e = .returned cv ∧ K (c.put o.dst cv) w' := callsIn_wide.2 (hK cargs h1)
  refine CallsIn.mono (CallsIn.inRound l hk) ?_
  rintro e w' ⟨cv, he, hk⟩
  subst he
  exact hk
end
section
variable {P : Program} {G : Nat} {D : List Deferred} {call : Callee} {l n : Nat}
theorem opsB_ok (hc : CallOk P G call) (all : Array Oper) {Q : Exit → Act → World → Prop} : ∀ (ops : List Oper), (∀ o ∈ ops, opOk G o = true ∧ ∀ c, o.op ≠ .defer c) → ∀ {ρ : Rn} {t t' : Fr} {a a' : A} {c : Act} {w : World}, Sta P G D ρ t a c w → ops1 P call all ops t a = some (t', a') →
    (∀ σ c' w', Sta P G D σ t' a' c' w' → St P (fun b => a.next ≤ b) ρ a w σ a' w' → a.next ≤ a'.next → Q .normal c' w') → wpListIn (Fence.wide.inRound l) n P all Q ops c w
  | [], _, ρ, t, t', a, a', c, w, hS, h, hQ => by
    rw [ops1_nil] at h
    cases h
    exact hQ ρ c w hS (St.refl hS.rel) (Nat.le_refl _)
  | o :: ops, hol, ρ, t, t', a, a', c, w, hS, h, hQ => by
    rw [ops1_cons, wanted_eq hS.tr] at h
    have ih := @opsB_ok hc all Q ops (fun o ho => hol o (List.mem_cons_of_mem _ ho))
    cases hw : Region.wanted o (yielded all c.tmps)
    · rw [hw, cond_false] at h
      unfold wpListIn
      rw [if_neg (by rw [hw]; simp)]
      exact ⟨fun _ _ => trivial, ih (hS.act .undef (St.refl hS.rel) hS.new o.dst) h hQ⟩
    · rw [hw, cond_true] at h
      unfold wpListIn
      rw [if_pos hw]
      have hop := fun r (hr : op P o t a = some r) => op_ok hS.rel (hS.new a.next (Nat.le_refl _)) (sees hS.gl (hol o List.mem_cons_self).1 hS.tr) hr
      unfold step1 at h
      split at h
      · rename_i v hr
        exact (hop _ hr).pu_in (hol o List.mem_cons_self).2 fun cv hv => ih (hS.act hv (St.refl hS.rel) hS.new o.dst) h hQ
      · rename_i v fs hr
        exact (hop _ hr).rd_in (hol o List.mem_cons_self).2 fun cv hv => ih (hS.act hv (St.refl hS.rel) hS.new o.dst) h hQ
      · rename_i v a1 hr
        refine (hop _ hr).act_in (hol o List.mem_cons_self).2 fun cv w' σ hv hs hn => ?_
        obtain ⟨n1, n2⟩ := new_step hS.new hs hn
        have hs' := hs.wide (M := fun b => a.next ≤ b) (fun b hb => by rw [hb]; exact Nat.le_refl _)
        exact ih (hS.act hv hs' n1 o.dst) h fun τ c' w'' k1 k2 k3 => hQ τ c' w'' k1 (hs'.trans (k2.wide fun b hb => Nat.le_trans n2 hb)) (Nat.le_trans n2 k3)
      · rename_i f args hr
        refine (hop _ hr).cl_in (hol o List.mem_cons_self).2 fun cargs hl => ?_
        split at h
        · rename_i v a1 hcl
          refine (hc f args a v a1 hcl ρ w cargs hS.rel hS.new hS.gl hl).mono ?_
          rintro e w' ⟨cv, σ, rfl, hv, hs, n1, n2⟩
          exact ⟨cv, rfl, ih (hS.act hv hs n1 o.dst) h fun τ c' w'' k1 k2 k3 => hQ τ c' w'' k1 (hs.trans (k2.wide fun b hb => Nat.le_trans n2 hb)) (Nat.le_trans n2 k3)⟩
        · cases h
      · cases h
def CodeIn (P : Program) (G : Nat) (D : List Deferred) (l n : Nat) (cd : Code) (x : C) : Prop := ∀ {t t' : Fr} {a a' : A} {e : Ex} {ρ : Rn} {c : Act} {w : World}, x t a = some (e, t', a') → Sta P G D ρ t a c w → cd.wpIn (Fence.wide.inRound l) n P (Po P G D ρ a w e t' a') c w
theorem regionB_ok (hc : CallOk P G call) {id : Nat} {ops : Array Oper} (hok1 : (ops.all fun o => o.op.operands.all (gOk G)) = true) : CodeIn P G D l n (.region id ops false) (codeB P call (.region id ops false)) := by
  intro t t' a a' e ρ c w h hS
  change (bif false || !noDefer ops then fun _ _ => none else cRegion P call ops false : C) t a = _ at h
  cases hnd : noDefer ops with
  | false => rw [hnd] at h; cases h
  | true =>
  rw [hnd] at h
  have hok' : ∀ o ∈ ops.toList, opOk G o = true ∧ ∀ c, o.op ≠ .defer c := fun o ho => ⟨Array.all_eq_true_iff_forall_mem.1 hok1 o (by simpa using ho), op_defer hnd ho⟩
  change cRegion P call ops false t a = _ at h
  unfold cRegion at h
  rw [cond_false] at h
  split at h
  · rename_i t1 a1 h1
    cases h
    exact wpIn_region_list (opsB_ok hc ops ops.toList hok' hS h1 fun σ c' w' k1 k2 k3 => ⟨rfl, σ, k1, k2, k3⟩)
  · cases h
theorem seqB_ok {x y : Code} {cx cy : C} (hx : CodeIn P G D l n x cx) (hy : CodeIn P G D l n y cy) : CodeIn P G D l n (.seq x y) (cSeq cx cy) := by
  intro t t' a a' e ρ c w h hS
  unfold cSeq at h
  split at h
  · rename_i t1 a1 h1
    refine wpIn_seq (Go.wpIn_mono (hx h1 hS) ?_)
    rintro E c1 w1 ⟨rfl, σ, k1, k2, k3⟩
    exact Go.wpIn_mono (hy h k1) fun E c2 w2 hp => Po.trans k2 k3 hp
  · rename_i hne
    refine wpIn_seq (Go.wpIn_mono (hx h hS) ?_)
    rintro E c1 w1 ⟨rfl, hp⟩
    cases e with
    | normal => exact absurd h (hne _ _)
    | exit id => exact ⟨rfl, hp⟩
    | ret => exact ⟨rfl, hp⟩
theorem condB_ok {cnd : Operand} {x y : Code} {cx cy : C} (hx : CodeIn P G D l n x cx) (hy : CodeIn P G D l n y cy) (hg : gOk G cnd = true) : CodeIn P G D l n (.cond cnd x y) (cCond cnd cx cy) := by
  intro t t' a a' e ρ c w h hS
  have hv : VR ρ (ev t cnd) (c.eval cnd) := by
    cases cnd with
    | tmp i => exact hS.tr.get i
    | const v => exact VR.flat (v := v) (by simpa [gOk] using hg)
    | global g => exact .ptr (hS.gl g (by simpa [gOk, Nat.blt_eq] using hg))
    | func f => exact .flat rfl
  unfold cCond at h
  split at h
  · rename_i hb
    rw [hb] at hv
    exact wpIn_cond_true hv.bool_inv (hx h hS)
  · rename_i hb
    rw [hb] at hv
    exact wpIn_cond_false hv.bool_inv (hy h hS)
  · cases h
theorem blockB_ok {id : Nat} {x : Code} {cx : C} (hx : CodeIn P G D l n x cx) : CodeIn P G D l n (.block id x) (cBlock id cx) := by
  intro t t' a a' e ρ c w h hS
  unfold cBlock at h
  split at h
  · rename_i id' t1 a1 h1
    split at h
    · rename_i hid
      cases h
      refine wpIn_block (Go.wpIn_mono (hx h1 hS) ?_)
      rintro E c1 w1 ⟨rfl, hp⟩
      have := Nat.eq_of_beq_eq_true hid
      show Exit.inBlock id _ (.exit id') c1 w1
      simp only [Exit.inBlock, if_pos this]
      exact ⟨rfl, hp⟩
    · rename_i hid
      cases h
      refine wpIn_block (Go.wpIn_mono (hx h1 hS) ?_)
      rintro E c1 w1 ⟨rfl, hp⟩
      have hne : ¬ id' = id := fun e => by rw [e, Nat.beq_refl] at hid; cases hid
      show Exit.inBlock id _ (.exit id') c1 w1
      simp only [Exit.inBlock, if_neg hne]
      exact ⟨rfl, hp⟩
  · rename_i hne
    refine wpIn_block (Go.wpIn_mono (hx h hS) ?_)
    rintro E c1 w1 ⟨rfl, hp⟩
    cases e with
    | normal => exact ⟨rfl, hp⟩
    | exit id => exact absurd h (hne _ _ _)
    | ret => exact ⟨rfl, hp⟩
theorem codeB_ok (hc : CallOk P G call) : ∀ (cd : Code), codeOk G cd = true → CodeIn P G D l n cd (codeB P call cd)
  | .skip, _ => fun h hS => by
    cases h
    exact wpIn_skip ⟨rfl, _, hS, St.refl hS.rel, Nat.le_refl _⟩
  | .region id ops true, hok => fun h hS => by cases h
  | .region id ops false, hok => regionB_ok hc (by simpa only [codeOk] using hok)
  | .seq x y, hok => by
    simp only [codeOk, Bool.and_eq_true] at hok
    exact seqB_ok (codeB_ok hc x hok.1) (codeB_ok hc y hok.2)
  | .cond cnd x y, hok => by
    simp only [codeOk, Bool.and_eq_true] at hok
    exact condB_ok (codeB_ok hc x hok.1.2) (codeB_ok hc y hok.2) hok.1.1
  | .block id x, hok => by
    simp only [codeOk] at hok
    exact blockB_ok (codeB_ok hc x hok)
  | .exit id, _ => fun h hS => by
    cases h
    exact wpIn_exit ⟨rfl, _, hS, St.refl hS.rel, Nat.le_refl _⟩
  | .loop x, _ => fun h hS => by cases h
  | .rangeFunc _ _ _ _, _ => fun h hS => by cases h
  | .scope _, _ => fun h hS => by cases h
  | .label l, _ => fun h hS => by cases h
  | .goto _, _ => fun h hS => by cases h
  | .ret, _ => fun h hS => by cases h
  | .refuse _, _ => fun h hS => by cases h
end
end Go.Proofs.YtjopodnlffaogaaGreatDoor.Abs
end
section
namespace Go.Proofs.YtjopodnlffaogaaGreatDoor.Abs
open Go.RowKit Tp
set_option linter.unusedVariables false
set_option linter.unusedSimpArgs false
noncomputable def T.filt (t : T) : (Nat → Bool) → T :=
  T.rec (motive := fun _ => (Nat → Bool) → T) (fun _ => .nil) (fun v _ _ fl fr f => .node (bif f 0 then v else none) (fl fun m => f (2 * m + 1)) (fr fun m => f (2 * m + 2))) t
theorem T.filt_node (v : Option AO) (l r : T) (f : Nat → Bool) : (T.node v l r).filt f = .node (bif f 0 then v else none) (l.filt fun m => f (2 * m + 1)) (r.filt fun m => f (2 * m + 2)) := rfl
theorem T.get_filt : ∀ (t : T) (f : Nat → Bool) (b : Nat) (o : AO), (t.filt f).get b = some o → t.get b = some o
  | .nil, f, b, o, h => by cases h
  | .node v l r, f, b, o, h => by
    rw [T.filt_node] at h
    rcases idx_cases b with rfl | ⟨k, rfl, _, _⟩ | ⟨k, rfl, _, _, _⟩
    · rw [T.get_zero] at h ⊢
      cases hf : f 0 with
      | true => rw [hf] at h; exact h
      | false => rw [hf] at h; cases h
    · rw [T.get_odd] at h ⊢
      exact T.get_filt l _ k o h
    · rw [T.get_even] at h ⊢
      exact T.get_filt r _ k o h
def namesC (v : Value) : List Nat :=
  match v with
  | .pointer (some a) => [a.block]
  | .slice (some a) _ _ => [a.block]
  | .map (some b) => [b]
  | .iface _ (.pointer (some a)) => [a.block]
  | .func _ ⟨x⟩ ⟨y⟩ => (x ++ y).filterMap fun u => match u with
    | .pointer (some a) => some a.block
    | _ => none
  | _ => []
noncomputable def namesL (cs : List Value) : List Nat := List.rec (motive := fun _ => List Nat) [] (fun v _ k => match namesC v with
  | [] => k
  | l => l ++ k) cs
noncomputable def namesF (t : Fr) : List Nat := FT.rec (motive := fun _ => List Nat) [] (fun v _ _ kl kr => match namesC v with
  | [] => kl ++ kr
  | l => l ++ (kl ++ kr)) t
noncomputable def reach (a : A) (n : Nat) : List Nat → Nat → Nat :=
  Nat.rec (motive := fun _ => List Nat → Nat → Nat) (fun _ m => m) (fun _ k work m => match work with
    | [] => m
    | b :: work => bif Nat.beq (Nat.land m (2 ^ b)) 0 then (match a.get b with
      | some (.row cs _ _) => k (namesL cs ++ work) (Nat.lor m (2 ^ b))
      | some _ => k work (Nat.lor m (2 ^ b))
      | none => k work m) else k work m) n
noncomputable def gc (t : Fr) (a : A) : A := ⟨a.next, a.t.filt fun b => Nat.ble b 12 || !Nat.beq (Nat.land (reach a 5000 (namesF t) 0) (2 ^ b)) 0⟩
theorem gc_get {t : Fr} {a : A} {b : Nat} {o : AO} (h : (gc t a).get b = some o) : a.get b = some o := T.get_filt _ _ _ _ h
noncomputable def eachLine (body : C) (t : Fr) (p d : Nat) (xs : List (List UInt8)) : A → Option A :=
  List.rec (motive := fun _ => A → Option A) (fun a => some a) (fun x _ k a => match body (lset (lset t p (lineV x)) d (lget (lset t p (lineV x)) p)) a with
    | some (.normal, _, a') => k (gc t a')
    | _ => none) xs
theorem each_nil (body : C) (t : Fr) (p d : Nat) (a : A) : eachLine body t p d [] a = some a := rfl
theorem each_cons (body : C) (t : Fr) (p d : Nat) (x : List UInt8) (xs : List (List UInt8)) (a : A) : eachLine body t p d (x :: xs) a = match body (lset (lset t p (lineV x)) d (lget (lset t p (lineV x)) p)) a with
    | some (.normal, _, a') => eachLine body t p d xs (gc t a')
    | _ => none := rfl
structure Mid (P : Program) (G : Nat) (ρ : Rn) (a : A) (w : World) (b D : Nat) (c : Act) (t : Fr) (σ : Rn) (a' : A) (w' : World) : Prop where
  rel : Rel P σ a' w'
  new : New σ a'.next
  gl : GL G σ
  tr : TR σ t c.tmps
  st : St P (fun b => a.next ≤ b) ρ a w σ a' w'
  le : a.next ≤ a'.next
  out : ∀ k, k = b ∨ k = D ∨ k = D + 1 → ¬ Named σ a' k
structure Sub (a b : A) : Prop where
  get : ∀ n o, b.get n = some o → a.get n = some o
  next : a.next ≤ b.next
theorem Sub.refl (a : A) : Sub a a := ⟨fun _ _ h => h, Nat.le_refl _⟩
theorem Sub.trans {a b c : A} (h : Sub a b) (k : Sub b c) : Sub a c := ⟨fun n o ho => h.get n o (k.get n o ho), Nat.le_trans h.next k.next⟩
theorem Sub.gc (t : Fr) (a : A) : Sub a (Abs.gc t a) := ⟨fun _ _ h => gc_get h, Nat.le_refl _⟩
theorem Sub.ne {a b : A} (h : Sub a b) {k : Nat} (hk : b.get k ≠ none) : a.get k ≠ none := by
  cases hq : b.get k with
  | none => exact absurd hq hk
  | some o => rw [h.get k o hq]; simp
theorem Mid.sub {P : Program} {G : Nat} {ρ : Rn} {a : A} {w : World} {b D : Nat} {c : Act} {t : Fr} {σ : Rn} {a' a2 : A} {w' : World} (h : Mid P G ρ a w b D c t σ a' w') (hs : Sub a' a2) : Mid P G ρ a w b D c t σ a2 w' := by
  have hrel : Rel P σ a2 w' := ⟨fun n o ho => h.rel.obj n o (hs.get n o ho), fun n m k hn1 hn2 => h.rel.inj n m k (hs.ne hn1) (hs.ne hn2)⟩
  have hlive : ∀ k, Live σ a2 k → Live σ a' k := fun k ⟨n, o, h1, h2⟩ => ⟨n, o, hs.get n o h1, h2⟩
  have hname : ∀ k, Named σ a2 k → Named σ a' k := fun k ⟨n, o, h1, h2⟩ => ⟨n, o, hs.get n o h1, h2⟩
  exact ⟨hrel, fun m hm => h.new m (Nat.le_trans hs.next hm), h.gl, h.tr, ⟨h.st.ext, hrel, h.st.md, fun k hk => h.st.own k (hlive k hk), fun k hk => h.st.names k (hname k hk)⟩, Nat.le_trans h.le hs.next, fun k hk hq => h.out k hk (hname k hq)⟩
inductive Lines (P : Program) (G : Nat) (body : Code) (t : Fr) (p d : Nat) : List (List UInt8) → A → A → Prop
  | nil (a : A) : Lines P G body t p d [] a a
  | cons {call : Callee} (hc : CallOk P G call) {x : List UInt8} {xs : List (List UInt8)} {a a' a2 : A} {t' : Fr} (h : codeB P call body (lset (lset t p (lineV x)) d (lget (lset t p (lineV x)) p)) a = some (.normal, t', a')) (hk : Lines P G body t p d xs a' a2) : Lines P G body t p d (x :: xs) a a2
  | sub {xs : List (List UInt8)} {a b a2 : A} (h : Sub a b) (hk : Lines P G body t p d xs b a2) : Lines P G body t p d xs a a2
theorem Lines.nil_inv {P : Program} {G : Nat} {body : Code} {t : Fr} {p d : Nat} {a a2 : A} {xs : List (List UInt8)} (h : Lines P G body t p d xs a a2) (hx : xs = []) : Sub a a2 := by
  induction h with
  | nil a => exact Sub.refl a
  | cons => cases hx
  | sub h _ ih => exact h.trans (ih hx)
theorem Lines.cons_inv {P : Program} {G : Nat} {body : Code} {t : Fr} {p d : Nat} {a a2 : A} {ys xs : List (List UInt8)} {x : List UInt8} (h : Lines P G body t p d ys a a2) (hx : ys = x :: xs) :
    ∃ call b a' t', CallOk P G call ∧ Sub a b ∧ codeB P call body (lset (lset t p (lineV x)) d (lget (lset t p (lineV x)) p)) b = some (.normal, t', a') ∧ Lines P G body t p d xs a' a2 := by
  induction h with
  | nil a => cases hx
  | cons hc h hk _ =>
    cases hx
    exact ⟨_, _, _, _, hc, Sub.refl _, h, hk⟩
  | sub h _ ih =>
    obtain ⟨call, b, a', t', h1, h2, h3, h4⟩ := ih hx
    exact ⟨call, b, a', t', h1, h.trans h2, h3, h4⟩
theorem Lines.of_each {P : Program} {G : Nat} {call : Callee} (hc : CallOk P G call) {body : Code} {t : Fr} {p d : Nat} : ∀ (xs : List (List UInt8)) {ys : List (List UInt8)} {a a1 a2 : A}, eachLine (codeB P call body) t p d xs a = some a1 → Lines P G body t p d ys a1 a2 → Lines P G body t p d (xs ++ ys) a a2
  | [], ys, a, a1, a2, h, hk => by
    rw [each_nil] at h
    cases h
    exact hk
  | x :: xs, ys, a, a1, a2, h, hk => by
    rw [each_cons] at h
    split at h
    · rename_i t' a' hq
      exact .cons hc hq (.sub (Sub.gc t a') (Lines.of_each hc xs h hk))
    · cases h
theorem Mid.mod {P : Program} {G : Nat} {ρ : Rn} {a : A} {w : World} {b D : Nat} {c : Act} {t : Fr} {σ : Rn} {a' : A} {w' w2 : World} (h : Mid P G ρ a w b D c t σ a' w') (hb : Live ρ a b) (hD : w.heap.size ≤ D) (hm : Mod (fun k => k = b ∨ k = D ∨ k = D + 1) w' w2) : Mid P G ρ a w b D c t σ a' w2 := by
  have hrel : Rel P σ a' w2 := ⟨fun n o hn => by
    obtain ⟨k, hk, ho⟩ := h.rel.obj n o hn
    refine ⟨k, hk, ?_⟩
    rw [hm.block k (h.rel.lt (by rw [hn]; simp) hk) (fun hk2 => h.out k hk2 ⟨n, o, hn, trivial, hk⟩)]
    exact ho, h.rel.inj⟩
  refine ⟨hrel, h.new, h.gl, h.tr, ⟨h.st.ext, hrel, ⟨hm.os.trans h.st.md.os, hm.tape.trans h.st.md.tape, hm.output.trans h.st.md.output, Nat.le_trans h.st.md.size hm.size, fun i hi hl => ?_⟩, h.st.own, h.st.names⟩, h.le, h.out⟩
  rw [hm.block i (Nat.lt_of_lt_of_le hi h.st.md.size) (fun hk => ?_)]
  · exact h.st.md.block i hi hl
  · rcases hk with rfl | rfl | rfl
    · exact hl hb
    · omega
    · omega
set_option maxHeartbeats 1000000 in
theorem range_ok {G : Nat} {body : Code} (hbok : codeOk G body = true) {id k p d : Nat} {o : Oper} (ho1 : o.dst = some d) (ho2 : o.op = .assign (.tmp p)) (ho3 : o.guard = none)
    {n : Nat} (hn : 6 ≤ n) {ρ : Rn} {t : Fr} {a a2 : A} {c : Act} {w : World} (hS : Sta Tryz.prog G [] ρ t a c w) {bn : Nat} (hk : lget t k = .func (.func 89) #[] #[.pointer (some ⟨bn, 0, none⟩)]) (hlt : bn + 1 < 1099511627776)
    {xs : List (List UInt8)} (hb : a.get bn = some (.row [.string (bytesL (catL xs))] 9 0)) (hx : ∀ x ∈ xs, 10 ∉ x) (hs : (catL xs).length < 1000000)
    (h : Lines Tryz.prog G body t p d xs (a.put bn none) a2) {Q : Exit → Act → World → Prop}
    (hQ : ∀ σ W, Mid Tryz.prog G ρ a w w.heap.size w.heap.size c t σ a2 W → W.heap[w.heap.size]? = some (.deferred (some [])) → Q .normal { c with defers := { target := .collected w.heap.size, args := #[] } :: c.defers } W) :
    (Code.rangeFunc (.tmp k) #[p] (.region id #[o] false) body).wpIn Fence.wide n Tryz.prog Q c w := by
  have hv := hS.tr.get k
  rw [hk] at hv
  obtain ⟨g, dd, e1, e2, e3⟩ := hv.func_inv
  obtain ⟨b, e4, hbb⟩ : ∃ b, dd = #[.pointer (some ⟨b, 0, none⟩)] ∧ ρ.blk bn = some b := by
    cases hl' : dd.toList with
    | nil => rw [hl'] at e3; cases e3
    | cons x l =>
      rw [hl'] at e3
      cases e3 with
      | cons hv ht =>
        cases ht
        obtain ⟨b, rfl, hb⟩ := hv.ptr_inv
        exact ⟨b, Array.toList_inj.1 (by simpa using hl'), hb⟩
  have e5 : g = #[] := by
    cases hl' : g.toList with
    | nil => exact Array.toList_inj.1 (by simpa using hl')
    | cons x l => rw [hl'] at e2; cases e2
  subst e4 e5
  obtain ⟨C, fr, g1, g2, g3, g4, g5⟩ := hS.rel.row hb hbb
  obtain rfl := g3 (by decide)
  have hC : C = #[.string (bytesL (catL xs))] := by
    obtain ⟨pr, r, q1, q2⟩ := g2
    cases q2 with
    | cons hx ht =>
      cases ht
      have := hx.flat_eq rfl
      subst this
      have hlen := congrArg List.length q1
      have h5 := g5 rfl
      simp only [Array.length_toList, List.length_append, List.length_cons, List.length_nil] at hlen h5
      have hr : r = [] := List.eq_nil_of_length_eq_zero (by omega)
      subst hr
      exact Array.toList_inj.1 (by simpa using q1)
  subst hC
  have hlive : Live ρ a b := ⟨bn, _, hb, by show (0 : Nat) ≠ 2; decide, hbb⟩
  have hdrop := hS.rel.drop bn hlt
  have hseq := lines_seq (n - 1) (by omega) b xs hx hs
  have hbs : b < w.heap.size := (Array.getElem?_eq_some_iff.1 g1).1
  refine wpIn_rangeCell (F := Fence.wide) (ps := #[p]) (encs := fun l => #[lineV l]) (xs := xs) (b := b) (lb := #[.pointer (some ⟨b, 0, none⟩)]) (gf := 89) rfl (by omega) e1 trivial (fun args w => run_enter Tryz.func89 rfl (by kernel_rfl) args w) hseq g1 (fun x => rfl)
    (fun pre W => ∃ σ a' suf, pre ++ suf = xs ∧ Lines Tryz.prog G body t p d suf a' a2 ∧ Mid Tryz.prog G ρ a w b w.heap.size c t σ a' W) ?_ ?_
    (fun x => { tmps := (c.tmps.setIfInBounds p (lineV x)).setIfInBounds d ((c.tmps.setIfInBounds p (lineV x)).getD p undef), defers := [] }) ?_ ?_ ?_
  · rintro s A B ⟨σ, a', suf, h0, h1, h2⟩ hm
    exact ⟨σ, a', suf, h0, h1, h2.mod hlive (Nat.le_refl _) hm⟩
  · have hout : ∀ k, k = b ∨ k = w.heap.size ∨ k = w.heap.size + 1 → ¬ Named ρ (a.put bn none) k := by
      rintro k hk ⟨m, o', q1, _, q2⟩
      have hne : (a.put bn none).get m ≠ none := by rw [q1]; simp
      have hlt' := hdrop.1.lt hne q2
      rcases hk with rfl | rfl | rfl
      · have hm := hS.rel.inj m bn k (hdrop.2 m hne) (by rw [hb]; simp) q2 hbb
        subst hm
        rw [get_put a m none m hlt, if_pos rfl] at q1
        cases q1
      · omega
      · omega
    exact ⟨ρ, _, xs, rfl, h, hdrop.1, hS.new, hS.gl, hS.tr, St.undrop hlt (St.refl hdrop.1) hS.rel, Nat.le_refl _, hout⟩
  · intro l x W K hK
    refine wpIn_region_list ?_
    show wpListIn _ _ _ _ _ [o] _ _
    refine wpListIn_plain ho3 fun K2 hK2 => ?_
    refine in_value (v := (c.tmps.setIfInBounds p (lineV x)).getD p undef) (w' := W) (fun c hc => by rw [ho2] at hc; cases hc) ?_ (hK2 _ _ ?_)
    · simp [execOp, ho2, Act.eval]
    · rw [ho1]
      have e : Array.foldl (fun t (x : Tmp × Value) => t.setIfInBounds x.1 x.2) c.tmps (#[p].zip #[lineV x]) = c.tmps.setIfInBounds p (lineV x) := by simp
      show K (Act.put ⟨Array.foldl (fun t (x : Tmp × Value) => t.setIfInBounds x.1 x.2) c.tmps (#[p].zip #[lineV x]), []⟩ (some d) _) W
      rw [e]
      exact hK
  · intro l pre x W hI hpre hlt2
    obtain ⟨σ, a'0, suf, h0, h1, h20⟩ := hI
    obtain ⟨ys, hys⟩ := hpre
    have hsuf : suf = x :: ys := by
      have e : pre ++ suf = pre ++ (x :: ys) := by rw [h0, ← hys]; simp
      exact List.append_cancel_left e
    obtain ⟨call, a', a1, t1, hc, hsb, h4, h5⟩ := h1.cons_inv hsuf
    have h2 := h20.sub hsb
    have q1 := h2.tr.put (c := c) (VR.flat (v := lineV x) rfl) (some p)
    have htr : TR σ (lset (lset t p (lineV x)) d (lget (lset t p (lineV x)) p)) ((c.tmps.setIfInBounds p (lineV x)).setIfInBounds d ((c.tmps.setIfInBounds p (lineV x)).getD p undef)) := TR.put (c := c.put (some p) (lineV x)) q1 (q1.get p) (some d)
    have hS2 : Sta Tryz.prog G [] σ (lset (lset t p (lineV x)) d (lget (lset t p (lineV x)) p)) a' { tmps := (c.tmps.setIfInBounds p (lineV x)).setIfInBounds d ((c.tmps.setIfInBounds p (lineV x)).getD p undef), defers := [] } W := ⟨h2.rel, h2.new, h2.gl, htr, rfl⟩
    refine Go.wpIn_mono (codeB_ok hc body hbok h4 hS2) ?_
    rintro E c3 W3 ⟨rfl, τ, k1, k2, k3⟩
    have hsz : ∀ k, k = b ∨ k = w.heap.size ∨ k = w.heap.size + 1 → k < W.heap.size := by
      have := h2.st.md.size
      rintro k (rfl | rfl | rfl) <;> omega
    have hM3 : Mid Tryz.prog G ρ a w b w.heap.size c t τ a1 W3 := ⟨k1.rel, k1.new, k1.gl, h2.tr.mono (k2.le (h2.new)), h2.st.trans (k2.wide fun m hm => Nat.le_trans h2.le hm), Nat.le_trans h2.le k3, fun k hk hnm => by
      rcases k2.names k hnm with h5 | h5
      · exact h2.out k hk h5
      · have := hsz k hk
        omega⟩
    refine ⟨fun k hk => k2.md.block k (hsz k hk) (fun hl => h2.out k hk (by obtain ⟨m, o', q1, _, q2⟩ := hl; exact ⟨m, o', q1, trivial, q2⟩)), τ, a1, ys, by rw [← hys], h5, hM3⟩
  · intro W hI hD
    obtain ⟨σ, a'0, suf, h0, h1, h20⟩ := hI
    have hsuf : suf = [] := by
      have := congrArg List.length h0
      rw [List.length_append] at this
      exact List.eq_nil_of_length_eq_zero (by omega)
    have h2 := h20.sub (h1.nil_inv hsuf)
    exact hQ σ W ⟨h2.rel, h2.new, h2.gl, h2.tr, h2.st, h2.le, fun k hk => h2.out k (by rcases hk with h | h | h <;> simp [h])⟩ hD
def linesOf : List UInt8 → List UInt8 → List (List UInt8)
  | [], _ => []
  | x :: l, acc => match Nat.beq x.toNat 10 with
    | true => acc.reverse :: linesOf l []
    | false => linesOf l (x :: acc)
def noEnd (xs : List (List UInt8)) : Bool := xs.all fun l => l.all fun x => !Nat.beq x.toNat 10
theorem noEnd_mem {xs : List (List UInt8)} (h : noEnd xs = true) : ∀ x ∈ xs, 10 ∉ x := by
  intro x hx hm
  have h1 := List.all_eq_true.1 (List.all_eq_true.1 h x hx) 10 hm
  revert h1
  decide
def bytesEq (a b : List UInt8) : Bool := match a, b with
  | [], [] => true
  | x :: a, y :: b => Nat.beq x.toNat y.toNat && bytesEq a b
  | _, _ => false
theorem bytesEq_eq : ∀ {a b : List UInt8}, bytesEq a b = true → a = b
  | [], [], _ => rfl
  | x :: a, y :: b, h => by
    simp only [bytesEq, Bool.and_eq_true] at h
    rw [UInt8.toNat_inj.1 (Nat.eq_of_beq_eq_true h.1), bytesEq_eq h.2]
  | [], _ :: _, h => by cases h
  | _ :: _, [], h => by cases h
structure Lined where
  x1 : Code
  x2 : Code
  x3 : Code
  x4 : Code
  id : Nat
  k : Nat
  p : Nat
  d : Nat
  rid : Nat
  o : Oper
  body : Code
  rest : Code
def Lined.code (L : Lined) : Code := .seq L.x1 (.seq L.x2 (.seq L.x3 (.seq (.seq L.x4 (.block L.id (.rangeFunc (.tmp L.k) #[L.p] (.region L.rid #[L.o] false) L.body))) L.rest)))
noncomputable def Lined.pre (L : Lined) (P : Program) (call : Callee) (lf : Nat) : C := cSeq (Abs.code P call lf L.x1) (cSeq (Abs.code P call lf L.x2) (cSeq (Abs.code P call lf L.x3) (Abs.code P call lf L.x4)))
noncomputable def textAt (t : Fr) (a : A) (k : Nat) : Option (Nat × List (List UInt8)) :=
  match lget t k with
  | .func (.func 89) ⟨[]⟩ ⟨[.pointer (some ⟨bn, 0, none⟩)]⟩ => match a.get bn with
    | some (.row [.string ⟨⟨s⟩⟩] 9 0) => match noEnd (linesOf s []) && bytesEq s (catL (linesOf s [])) && Nat.blt s.length 1000000 && Nat.blt bn 1000000 with
      | true => some (bn, linesOf s [])
      | false => none
    | _ => none
  | _ => none
theorem textAt_ok {t : Fr} {a : A} {k bn : Nat} {xs : List (List UInt8)} (h : textAt t a k = some (bn, xs)) : lget t k = .func (.func 89) #[] #[.pointer (some ⟨bn, 0, none⟩)] ∧ a.get bn = some (.row [.string (bytesL (catL xs))] 9 0) ∧ (∀ x ∈ xs, 10 ∉ x) ∧ (catL xs).length < 1000000 ∧ bn + 1 < 1099511627776 := by
  unfold textAt at h
  split at h
  · rename_i bn' hk
    split at h
    · rename_i s hb
      split at h
      · rename_i hq
        cases h
        simp only [Bool.and_eq_true, Nat.blt_eq] at hq
        obtain ⟨⟨⟨q1, q2⟩, q3⟩, q4⟩ := hq
        have e := bytesEq_eq q2
        refine ⟨hk, ?_, noEnd_mem q1, by rw [← e]; exact q3, by omega⟩
        rw [hb, ← e]
        rfl
      · cases h
    · cases h
  · cases h
def Lined.Run (L : Lined) (P : Program) (G : Nat) (t : Fr) (a : A) (r : Ex × Fr × A) : Prop := ∃ c1 lf1 c2 lf2 t1 a1 bn xs a2, CallOk P G c1 ∧ CallOk P G c2 ∧ L.pre P c1 lf1 t a = some (.normal, t1, a1) ∧ textAt t1 a1 L.k = some (bn, xs) ∧ Lines P G L.body t1 L.p L.d xs (a1.put bn none) a2 ∧ Abs.code P c2 lf2 L.rest t1 a2 = some r
noncomputable def Lined.go (L : Lined) (P : Program) (call : Callee) (lf : Nat) : C := fun t a =>
  match L.pre P call lf t a with
  | some (.normal, t1, a1) => match textAt t1 a1 L.k with
    | some (bn, xs) => match eachLine (codeB P call L.body) t1 L.p L.d xs (a1.put bn none) with
      | some a2 => Abs.code P call lf L.rest t1 a2
      | none => none
    | none => none
  | _ => none
theorem Lined.go_run {L : Lined} {P : Program} {G : Nat} {call : Callee} (hc : CallOk P G call) {lf : Nat} {t : Fr} {a : A} {r : Ex × Fr × A} (h : L.go P call lf t a = some r) : L.Run P G t a r := by
  unfold Lined.go at h
  split at h
  · rename_i t1 a1 h1
    split at h
    · rename_i bn xs h2
      split at h
      · rename_i a2 h3
        have := Lines.of_each hc xs h3 (.nil (P := P) (G := G) (body := L.body) (t := t1) (p := L.p) (d := L.d) a2)
        rw [List.append_nil] at this
        exact ⟨call, lf, call, lf, t1, a1, bn, xs, a2, hc, hc, h1, h2, this, h⟩
      · cases h
    · cases h
  · cases h
def Lined.ok (L : Lined) (G : Nat) : Bool := codeOk G L.x1 && codeOk G L.x2 && codeOk G L.x3 && codeOk G L.x4 && codeOk G L.body && codeOk G L.rest
structure Lined.Fits (L : Lined) : Prop where
  o1 : L.o.dst = some L.d
  o2 : L.o.op = .assign (.tmp L.p)
  o3 : L.o.guard = none
theorem Live.le {ρ : Rn} {a : A} {c : Nat} (h : Live ρ a c) : Named ρ a c := by
  obtain ⟨m, o, h1, _, h2⟩ := h
  exact ⟨m, o, h1, trivial, h2⟩
theorem cseq_inv {x y : C} {t t' : Fr} {a a' : A} (h : cSeq x y t a = some (.normal, t', a')) : ∃ t1 a1, x t a = some (.normal, t1, a1) ∧ y t1 a1 = some (.normal, t', a') := by
  unfold cSeq at h
  split at h
  · rename_i t1 a1 h1
    exact ⟨t1, a1, h1, h⟩
  · rename_i hne
    exact absurd h (hne _ _)
theorem lined_run_ok {G : Nat} (hm : Tryz.prog.follows .mixedOrders = true) (L : Lined) (hL : L.Fits) (hok : L.ok G = true) {f : FuncId} {fn : Func} (hf : Tryz.prog.funcs[f]? = some fn) (hb : fn.body = some L.code) (hn1 : fn.ntmps ≤ 2000)
    {args : List Value} (hn2 : args.length ≤ fn.ntmps) {a a' : A} {v : Value} {r : Ex × Fr × A} (hgo : L.Run Tryz.prog G (frameOf fn.ntmps args) a r) (h : leave Tryz.prog fn (some r) = some (v, a')) :
    ∀ ρ w (cargs : Array Value), Rel Tryz.prog ρ a w → New ρ a.next → GL G ρ → LR ρ args cargs.toList →
    Calls Tryz.prog f cargs w fun e w' => ∃ cv σ, e = .returned cv ∧ VR σ v cv ∧ St Tryz.prog (fun b => a.next ≤ b) ρ a w σ a' w' ∧ New σ a'.next ∧ a.next ≤ a'.next := by
  intro ρ w cargs hR hnw hg hl
  simp only [Lined.ok, Bool.and_eq_true] at hok
  obtain ⟨⟨⟨⟨⟨k1, k2⟩, k3⟩, k4⟩, k5⟩, k6⟩ := hok
  have htr := frame_tr hl fn.ntmps hn1 hn2
  have hS : Sta Tryz.prog G [] ρ (frameOf fn.ntmps args) a { tmps := cargs ++ Array.replicate (fn.ntmps - cargs.size) undef, defers := [] } w := ⟨hR, hnw, hg, htr, rfl⟩
  refine (callsIn_wide (n := 9)).1 (callsIn_of_wp_marks hf hb trivial ?_ rfl)
  unfold leave at h
  obtain ⟨e, t3, a3⟩ := r
  split at h
  · cases h
  · rename_i e t3 a3 hx hee
    cases hee
    split at h
    · rename_i vs hvs
      cases h
      obtain ⟨c1, lf1, c2, lf2, t1, a1, bn, xs, a2, hc1, hc2, hpre, htx, hea, hgo⟩ := hgo
      · · ·
            obtain ⟨u1, u2, u3, u4, u5⟩ := textAt_ok htx
            -- the end
            have hend : ∀ (D : List Deferred) (E : Exit) (c3 : Act) (w3 : World) (σ : Rn), (D = [] ∨ ∃ k, D = [{ target := .collected k, args := #[] }] ∧ w3.heap[k]? = some (.deferred (some [])) ∧ ¬ Named σ a' k ∧ w.heap.size ≤ k) → Sta Tryz.prog G D σ t3 a' c3 w3 → St Tryz.prog (fun b => a.next ≤ b) ρ a w σ a' w3 → a.next ≤ a'.next → E = e.conc →
                bodyPostM Fence.wide 9 Tryz.prog fn (fun e w' => ∃ cv σ, e = .returned cv ∧ VR σ (tupled vs) cv ∧ St Tryz.prog (fun b => a.next ≤ b) ρ a w σ a' w' ∧ New σ a'.next ∧ a.next ≤ a'.next) E c3 w3 := by
              rintro D E c3 w3 σ hD hS3 hst hle rfl
              have hfin : LeavesInM Fence.wide 9 Tryz.prog fn c3.tmps (fun e w' => ∃ cv σ, e = .returned cv ∧ VR σ (tupled vs) cv ∧ St Tryz.prog (fun b => a.next ≤ b) ρ a w σ a' w' ∧ New σ a'.next ∧ a.next ≤ a'.next) c3.defers .returning w3 := by
                rw [hS3.df]
                rcases hD with rfl | ⟨k, rfl, q1, q2, q3⟩
                · obtain ⟨cv, r1, r2⟩ := results_ok hS3.rel hS3.tr hvs
                  exact ⟨cv, r2, cv, σ, rfl, r1, hst, hS3.new, hle⟩
                · have hrel : Rel Tryz.prog σ a' (w3.putObj k (.deferred none)) := ⟨fun n o hn => by
                    obtain ⟨i, hi, ho⟩ := hS3.rel.obj n o hn
                    refine ⟨i, hi, ?_⟩
                    have hne : i ≠ k := fun he => q2 ⟨n, o, hn, trivial, by rw [← he]; exact hi⟩
                    rw [World.putObj_heap_other hne]
                    exact ho, hS3.rel.inj⟩
                  obtain ⟨cv, r1, r2⟩ := results_ok hrel hS3.tr hvs
                  refine ⟨by simp, .inl ⟨k, _, rfl, run_takeDeferred q1, cv, r2, cv, σ, rfl, r1, ⟨hst.ext, hrel, ⟨hst.md.os, hst.md.tape, hst.md.output, ?_, fun i hi hni => ?_⟩, hst.own, hst.names⟩, hS3.new, hle⟩⟩
                  · have := hst.md.size
                    simpa using this
                  · rw [World.putObj_heap_other (by omega)]
                    exact hst.md.block i hi hni
              cases e with
              | normal => exact hfin
              | ret => exact hfin
              | exit id => exact absurd rfl (hx _)
            obtain ⟨s1, b1, p1, p2⟩ := cseq_inv hpre
            obtain ⟨s2, b2, p3, p4⟩ := cseq_inv p2
            obtain ⟨s3, b3, p5, p6⟩ := cseq_inv p4
            refine wpIn_seq (Go.wpIn_mono (wpIn_wide.2 (code_ok hc1 hm lf1 L.x1 k1 p1 hS)) ?_)
            rintro E c1 w1 ⟨rfl, σ1, S1, T1, L1⟩
            refine wpIn_seq (Go.wpIn_mono (wpIn_wide.2 (code_ok hc1 hm lf1 L.x2 k2 p3 S1)) ?_)
            rintro E c2 w2 ⟨rfl, σ2, S2, T2, L2⟩
            refine wpIn_seq (Go.wpIn_mono (wpIn_wide.2 (code_ok hc1 hm lf1 L.x3 k3 p5 S2)) ?_)
            rintro E c3 w3 ⟨rfl, σ3, S3, T3, L3⟩
            refine wpIn_seq (wpIn_seq (Go.wpIn_mono (wpIn_wide.2 (code_ok hc1 hm lf1 L.x4 k4 p6 S3)) ?_))
            rintro E c4 w4 ⟨rfl, σ4, S4, T4, L4⟩
            have T : St Tryz.prog (fun b => a.next ≤ b) ρ a w σ4 a1 w4 := T1.trans ((T2.wide fun m hm => Nat.le_trans L1 hm).trans ((T3.wide fun m hm => Nat.le_trans L1 (Nat.le_trans L2 hm)).trans (T4.wide fun m hm => Nat.le_trans L1 (Nat.le_trans L2 (Nat.le_trans L3 hm)))))
            have Lx : a.next ≤ a1.next := Nat.le_trans L1 (Nat.le_trans L2 (Nat.le_trans L3 L4))
            refine wpIn_block (range_ok k5 hL.o1 hL.o2 hL.o3 (by decide) S4 u1 u5 u2 u3 u4 hea ?_)
            intro τ W hM hD
            have hkW : w4.heap.size < W.heap.size := (Array.getElem?_eq_some_iff.1 hD).1
            have hS5 : Sta Tryz.prog G [{ target := .collected w4.heap.size, args := #[] }] τ t1 a2 { c4 with defers := { target := .collected w4.heap.size, args := #[] } :: c4.defers } W := ⟨hM.rel, hM.new, hM.gl, hM.tr, by rw [S4.df]⟩
            have hout := hM.out w4.heap.size (.inl rfl)
            refine Go.wpIn_mono (wpIn_wide.2 (code_ok hc2 hm lf2 L.rest k6 hgo hS5)) ?_
            rintro E c6 w6 ⟨hE, σ6, S6, T6, L6⟩
            refine hend _ E c6 w6 σ6 (.inr ⟨_, rfl, ?_, ?_, T.md.size⟩) S6 (T.trans ((hM.st.wide fun m hm => Nat.le_trans Lx hm).trans (T6.wide fun m hm => Nat.le_trans Lx (Nat.le_trans hM.le hm)))) (Nat.le_trans Lx (Nat.le_trans hM.le L6)) hE
            · rw [T6.md.block _ hkW (fun hl => hout hl.le)]
              exact hD
            · intro hnm
              rcases T6.names _ hnm with h5 | h5
              · exact hout h5
              · omega
    · cases h
  · cases h
theorem lined_ok {G lf : Nat} {call : Callee} (hc : CallOk Tryz.prog G call) (hm : Tryz.prog.follows .mixedOrders = true) (L : Lined) (hL : L.Fits) (hok : L.ok G = true) {f : FuncId} {fn : Func} (hf : Tryz.prog.funcs[f]? = some fn) (hb : fn.body = some L.code) (hn1 : fn.ntmps ≤ 2000)
    {args : List Value} (hn2 : args.length ≤ fn.ntmps) {a a' : A} {v : Value} (h : leave Tryz.prog fn (L.go Tryz.prog call lf (frameOf fn.ntmps args) a) = some (v, a')) :
    ∀ ρ w (cargs : Array Value), Rel Tryz.prog ρ a w → New ρ a.next → GL G ρ → LR ρ args cargs.toList →
    Calls Tryz.prog f cargs w fun e w' => ∃ cv σ, e = .returned cv ∧ VR σ v cv ∧ St Tryz.prog (fun b => a.next ≤ b) ρ a w σ a' w' ∧ New σ a'.next ∧ a.next ≤ a'.next := by
  cases hq : L.go Tryz.prog call lf (frameOf fn.ntmps args) a with
  | none =>
    rw [hq] at h
    cases h
  | some r =>
    rw [hq] at h
    exact lined_run_ok hm L hL hok hf hb hn1 hn2 (Lined.go_run hc hq) h
end Go.Proofs.YtjopodnlffaogaaGreatDoor.Abs
end
section
namespace Go.Proofs.YtjopodnlffaogaaGreatDoor.Abs
open Go.RowKit
set_option linter.unusedVariables false
set_option linter.unusedSimpArgs false
def cellOk : Value → Bool
  | .iface _ (.pointer (some ⟨_, _, some _⟩)) => true
  | v => flat v
theorem cellOk_move {ρ σ : Rn} {v w : Value} (h : cellOk v = true) (hv : VR ρ v w) : VR σ v w := by
  unfold cellOk at h
  split at h
  · cases hv with
    | flat h => simp [flat] at h
    | iface h =>
      cases h with
      | flat h => simp [flat] at h
      | far => exact .iface .far
  · rw [hv.flat_eq h]
    exact .flat h
theorem cells_move {ρ σ : Rn} : ∀ {l m : List Value}, l.all cellOk = true → LR ρ l m → LR σ l m
  | [], _, _, h => by cases h; exact .nil
  | v :: l, _, hok, h => by
    cases h with
    | cons hv ht =>
      simp only [List.all_cons, Bool.and_eq_true] at hok
      exact .cons (cellOk_move hok.1 hv) (cells_move hok.2 ht)
def cellEq : Value → Value → Bool
  | .iface t (.pointer (some ⟨b, o, some x⟩)), .iface u (.pointer (some ⟨c, p, some y⟩)) => Nat.beq t u && Nat.beq b c && Nat.beq o p && Nat.beq x y
  | v, w => veq v w
theorem cellEq_eq {v w : Value} (h : cellEq v w = true) : v = w := by
  unfold cellEq at h
  split at h
  · simp only [Bool.and_eq_true, nbeq] at h
    obtain ⟨⟨⟨h1, h2⟩, h3⟩, h4⟩ := h
    subst h1 h2 h3 h4
    rfl
  · exact veq_eq h
def cellsEq : List Value → List Value → Bool
  | [], [] => true
  | v :: l, w :: m => cellEq v w && cellsEq l m
  | _, _ => false
theorem cellsEq_eq : ∀ {l m : List Value}, cellsEq l m = true → l = m
  | [], [], _ => rfl
  | v :: l, w :: m, h => by
    simp only [cellsEq, Bool.and_eq_true] at h
    rw [cellEq_eq h.1, cellsEq_eq h.2]
  | [], _ :: _, h => by cases h
  | _ :: _, [], h => by cases h
abbrev Vars := List (Nat × List Value × TypeId)
noncomputable def mkA (vs : Vars) : A := vs.foldr (fun r a => a.put r.1 (some (.row r.2.1 r.2.2 2))) ⟨13, .nil⟩
def varsOk (vs : Vars) : Bool := vs.all fun r => r.2.1.all cellOk && Nat.blt r.1 12
noncomputable def hasV (vs : Vars) (a : A) : Bool := vs.all fun r => match a.get r.1 with
  | some (.row cs e 2) => cellsEq cs r.2.1 && Nat.beq e r.2.2
  | _ => false
theorem mkA_get : ∀ {vs : Vars}, varsOk vs = true → ∀ {b : Nat} {o : AO}, (mkA vs).get b = some o → ∃ cs e, o = .row cs e 2 ∧ (b, cs, e) ∈ vs ∧ cs.all cellOk = true ∧ b < 12
  | [], _, b, o, h => by cases h
  | r :: vs, hok, b, o, h => by
    simp only [varsOk, List.all_cons, Bool.and_eq_true, Nat.blt_eq] at hok
    have h2 : ((mkA vs).put r.1 (some (.row r.2.1 r.2.2 2))).get b = some o := h
    rw [get_put _ _ _ _ (by omega)] at h2
    split at h2
    · rename_i hb
      cases h2
      subst hb
      exact ⟨_, _, rfl, List.mem_cons_self, hok.1.1, hok.1.2⟩
    · obtain ⟨cs, e, h3, h4, h5⟩ := mkA_get (vs := vs) hok.2 h2
      exact ⟨cs, e, h3, List.mem_cons_of_mem _ h4, h5⟩
theorem mkA_next : ∀ (vs : Vars), (mkA vs).next = 13
  | [] => rfl
  | r :: vs => mkA_next vs
theorem hasV_mem {vs : Vars} {a : A} (h : hasV vs a = true) {b : Nat} {cs : List Value} {e : TypeId} (hm : (b, cs, e) ∈ vs) : a.get b = some (.row cs e 2) := by
  have := List.all_eq_true.1 h _ hm
  simp only [] at this
  split at this
  · rename_i cs' e' hg
    simp only [Bool.and_eq_true, nbeq] at this
    rw [hg, cellsEq_eq this.1, this.2]
  · cases this
theorem rel_vars {P : Program} {ρ : Rn} {a : A} {w : World} (hR : Rel P ρ a w) {vs : Vars} (hok : varsOk vs = true) (h : hasV vs a = true) : Rel P ⟨fun b => if b < 13 then ρ.blk b else none, ρ.cap⟩ (mkA vs) w := by
  refine ⟨fun b o hb => ?_, fun b b' c hb hb' hc hc' => ?_⟩
  · obtain ⟨cs, e, rfl, hm, hcs, hlt⟩ := mkA_get hok hb
    obtain ⟨c, h1, C, fr, h2, ⟨p, r, h3, h4⟩, h5⟩ := hR.obj b _ (hasV_mem h hm)
    refine ⟨c, by show (if b < 13 then ρ.blk b else none) = _; rw [if_pos (by omega)]; exact h1, C, fr, h2, ⟨p, r, h3, cells_move hcs h4⟩, fun h => absurd rfl h, (fun h => by cases h), fun h => by cases h⟩
  · have g : ∀ k, (mkA vs).get k ≠ none → a.get k ≠ none ∧ k < 13 := fun k hk => by
      cases hg : (mkA vs).get k with
      | none => exact absurd hg hk
      | some o =>
        obtain ⟨cs, e, rfl, hm, _, hlt⟩ := mkA_get hok hg
        rw [hasV_mem h hm]
        exact ⟨by simp, by omega⟩
    have g1 := g b hb
    have g2 := g b' hb'
    have hc1 : (if b < 13 then ρ.blk b else none) = some c := hc
    have hc2 : (if b' < 13 then ρ.blk b' else none) = some c := hc'
    rw [if_pos g1.2] at hc1
    rw [if_pos g2.2] at hc2
    exact hR.inj b b' c g1.1 g2.1 hc1 hc2
def Known (P : Program) (vs : Vars) (f : FuncId) (args : List Value) (v : Value) : Prop := ∀ ρ (a : A) (w : World), Rel P ρ a w → GL 12 ρ → hasV vs a = true → Calls P f args.toArray w fun e w' => e = .returned v ∧ Md (fun _ => False) w w'
theorem known {P : Program} {call : Callee} (hc : CallOk P 12 call) {vs : Vars} (hok : varsOk vs = true) {f : FuncId} {args : List Value} {v : Value} (hfa : flatL args = true) (hfv : flat v = true) (h : (call f args (mkA vs)).map (fun r => r.1) = some v) : Known P vs f args v := by
  intro ρ a w hR hg hv
  cases hq : call f args (mkA vs) with
  | none => rw [hq] at h; cases h
  | some r =>
    obtain ⟨u, a'⟩ := r
    rw [hq] at h
    cases h
    have hR0 := rel_vars hR hok hv
    refine (hc f args (mkA vs) _ a' hq _ w args.toArray hR0 (fun b hb => ?_) (fun g hgl => ?_) (LR.flat hfa)).mono ?_
    · rw [mkA_next] at hb
      show (if b < 13 then ρ.blk b else none) = none
      rw [if_neg (by omega)]
    · show (if g < 13 then ρ.blk g else none) = some g
      rw [if_pos (by omega)]
      exact hg g hgl
    · rintro e w' ⟨cv, σ, rfl, hv2, hs, _⟩
      refine ⟨by rw [hv2.flat_eq hfv], hs.md.os, hs.md.tape, hs.md.output, hs.md.size, fun i hi _ => hs.md.block i hi (fun hl => ?_)⟩
      obtain ⟨b, o, hb, hw, _⟩ := hl
      obtain ⟨cs, e, rfl, _⟩ := mkA_get hok hb
      exact hw rfl
noncomputable def lookT (tab : List (List Value × Value)) (args : List Value) : Option Value :=
  List.rec (motive := fun _ => Option Value) none (fun r _ k => bif veqL args r.1 then some r.2 else k) tab
theorem lookT_mem : ∀ {tab : List (List Value × Value)} {args : List Value} {v : Value}, lookT tab args = some v → (args, v) ∈ tab
  | [], _, _, h => by cases h
  | r :: tab, args, v, h => by
    have h2 : (bif veqL args r.1 then some r.2 else lookT tab args) = some v := h
    cases hq : veqL args r.1 with
    | true =>
      rw [hq] at h2
      cases h2
      rw [veqL_eq hq]
      exact List.mem_cons_self
    | false =>
      rw [hq] at h2
      exact List.mem_cons_of_mem _ (lookT_mem h2)
noncomputable def tabI (vs : Vars) (f0 : FuncId) (tab : List (List Value × Value)) : Callee := fun f args a =>
  match Nat.beq f f0 with
  | true => match lookT tab args with
    | some v => match hasV vs a with
      | true => some (v, a)
      | false => none
    | none => none
  | false => none
theorem md_rel {P : Program} {ρ : Rn} {a : A} {w w' : World} (h : Rel P ρ a w) (hm : Md (fun _ => False) w w') : Rel P ρ a w' := ⟨fun b o hb => by
  obtain ⟨c, hc, ho⟩ := h.obj b o hb
  refine ⟨c, hc, ?_⟩
  rw [hm.block c (h.lt (by rw [hb]; simp) hc) (fun h => h)]
  exact ho, h.inj⟩
theorem tab_ok {P : Program} {vs : Vars} {f0 : FuncId} {tab : List (List Value × Value)} (h : ∀ r ∈ tab, flatL r.1 = true ∧ flat r.2 = true ∧ Known P vs f0 r.1 r.2) : CallOk P 12 (tabI vs f0 tab) := by
  intro f args a v a' hq ρ w cargs hR hn hg hl
  unfold tabI at hq
  split at hq
  · rename_i hf
    obtain rfl := Nat.eq_of_beq_eq_true hf
    split at hq
    · rename_i u hu
      split at hq
      · rename_i hv
        cases hq
        obtain ⟨h1, h2, h3⟩ := h _ (lookT_mem hu)
        have he : cargs = args.toArray := Array.toList_inj.1 (by simpa using hl.flat_eq h1)
        subst he
        refine (h3 ρ a w hR hg hv).mono ?_
        rintro e w' ⟨rfl, hm⟩
        exact ⟨_, ρ, rfl, .flat h2, ⟨fun _ _ => ⟨rfl, rfl⟩, md_rel hR hm, ⟨hm.os, hm.tape, hm.output, hm.size, fun i hi _ => hm.block i hi (fun h => h)⟩, fun _ hc => .inl hc, fun _ hc => .inl hc⟩, hn, Nat.le_refl _⟩
      · cases hq
    · cases hq
  · cases hq
def toLined : Code → Option Lined
  | .seq x1 (.seq x2 (.seq x3 (.seq (.seq x4 (.block id (.rangeFunc (.tmp k) ⟨[p]⟩ (.region rid ⟨[o]⟩ false) body))) rest))) =>
    match o.dst, o.op, o.guard with
    | some d, .assign (.tmp q), none => match Nat.beq q p with
      | true => some ⟨x1, x2, x3, x4, id, k, p, d, rid, o, body, rest⟩
      | false => none
    | _, _, _ => none
  | _ => none
theorem toLined_ok {c : Code} {L : Lined} (h : toLined c = some L) : c = L.code ∧ L.Fits := by
  unfold toLined at h
  split at h
  · split at h
    · rename_i d q h1 h2 h3
      split at h
      · rename_i hq
        have hq' := Nat.eq_of_beq_eq_true hq
        subst hq'
        cases h
        exact ⟨rfl, h1, h2, h3⟩
      · cases h
    · cases h
  · cases h
noncomputable def linedI (P : Program) (lf : Nat) (call : Callee) (fs : List FuncId) : Callee := fun f args a =>
  match memN f fs with
  | true => match P.funcs[f]? with
    | some fn => match fn.body with
      | some c => match toLined c with
        | some L => match L.ok 12 && Nat.ble fn.ntmps 2000 && Nat.ble args.length fn.ntmps with
          | true => leave P fn (L.go P call lf (frameOf fn.ntmps args) a)
          | false => none
        | none => none
      | none => none
    | none => none
  | false => none
theorem linedI_ok {lf : Nat} {call : Callee} (hc : CallOk Tryz.prog 12 call) (hm : Tryz.prog.follows .mixedOrders = true) (fs : List FuncId) : CallOk Tryz.prog 12 (linedI Tryz.prog lf call fs) := by
  intro f args a v a' h
  unfold linedI at h
  split at h
  · split at h
    · rename_i fn hf
      split at h
      · rename_i c hb
        split at h
        · rename_i L hL
          split at h
          · rename_i hq
            simp only [Bool.and_eq_true] at hq
            obtain ⟨hcode, hfit⟩ := toLined_ok hL
            subst hcode
            exact lined_ok hc hm L hfit hq.1.1 hf hb (Nat.le_of_ble_eq_true hq.1.2) (Nat.le_of_ble_eq_true hq.2) h
          · cases h
        · cases h
      · cases h
    · cases h
  · cases h
def OkRun (f : FuncId) (args : List Value) (a : A) (v : Value) (a' : A) : Prop := ∀ ρ w (cargs : Array Value), Rel Tryz.prog ρ a w → New ρ a.next → GL 12 ρ → LR ρ args cargs.toList →
  Calls Tryz.prog f cargs w fun e w' => ∃ cv σ, e = .returned cv ∧ VR σ v cv ∧ St Tryz.prog (fun b => a.next ≤ b) ρ a w σ a' w' ∧ New σ a'.next ∧ a.next ≤ a'.next
noncomputable def mkH (n : Nat) (l : List (Nat × AO)) : A := l.foldr (fun r a => a.put r.1 (some r.2)) ⟨n, .nil⟩
theorem mkH_next (n : Nat) : ∀ (l : List (Nat × AO)), (mkH n l).next = n
  | [] => rfl
  | r :: l => mkH_next n l
noncomputable def subOk (a : A) (n : Nat) (l : List (Nat × AO)) : Bool := Nat.ble a.next n && l.all fun r => Nat.blt r.1 1000000 && ooEq (a.get r.1) (some r.2)
theorem subOk_ok {a : A} {n : Nat} : ∀ {l : List (Nat × AO)}, subOk a n l = true → Sub a (mkH n l)
  | [], h => by
    simp only [subOk, Bool.and_eq_true] at h
    exact ⟨(fun m o ho => by cases ho), Nat.le_of_ble_eq_true h.1⟩
  | r :: l, h => by
    simp only [subOk, Bool.and_eq_true, List.all_cons, Nat.blt_eq] at h
    obtain ⟨h1, ⟨h2, h3⟩, h4⟩ := h
    have ih : Sub a (mkH n l) := subOk_ok (by simp only [subOk, Bool.and_eq_true]; exact ⟨h1, h4⟩)
    refine ⟨fun m o ho => ?_, by rw [mkH_next]; exact Nat.le_of_ble_eq_true h1⟩
    have h5 : ((mkH n l).put r.1 (some r.2)).get m = some o := ho
    rw [get_put _ _ _ _ (by omega)] at h5
    split at h5
    · rename_i hm
      cases h5
      subst hm
      exact ooEq_eq h3
    · exact ih.get m o h5
noncomputable def startL (f : FuncId) (c1 : Callee) (lf : Nat) (args : List Value) (a : A) : Option (Func × Lined × Fr × List (List UInt8) × A) :=
  match Tryz.prog.funcs[f]? with
  | some fn => match fn.body with
    | some c => match toLined c with
      | some L => match L.ok 12 && Nat.ble fn.ntmps 2000 && Nat.ble args.length fn.ntmps with
        | true => match L.pre Tryz.prog c1 lf (frameOf fn.ntmps args) a with
          | some (.normal, t1, a1) => match textAt t1 a1 L.k with
            | some (bn, xs) => some (fn, L, t1, xs, a1.put bn none)
            | none => none
          | _ => none
        | false => none
      | none => none
    | none => none
  | none => none
noncomputable def getS (s : Option A) (a : A) : A :=
  match s with
  | some b => b
  | none => a
def From (st : Option (Func × Lined × Fr × List (List UInt8) × A)) (i : Nat) (s : Option A) (chk : Option (Value × A) → Bool) : Prop := ∀ fn L t1 xs a0, st = some (fn, L, t1, xs, a0) →
  ∃ r a2 c2 lf2, Lines Tryz.prog 12 L.body t1 L.p L.d (xs.drop i) (getS s a0) a2 ∧ CallOk Tryz.prog 12 c2 ∧ Abs.code Tryz.prog c2 lf2 L.rest t1 a2 = some r ∧ chk (leave Tryz.prog fn (some r)) = true
noncomputable def pieceOk (st : Option (Func × Lined × Fr × List (List UInt8) × A)) (call : Callee) (i k : Nat) (s : Option A) (n : Nat) (l : List (Nat × AO)) : Bool :=
  match st with
  | some (_, L, t1, xs, a0) => match eachLine (codeB Tryz.prog call L.body) t1 L.p L.d ((xs.drop i).take k) (getS s a0) with
    | some a' => subOk a' n l
    | none => false
  | none => false
theorem From.piece {st : Option (Func × Lined × Fr × List (List UInt8) × A)} {call : Callee} (hc : CallOk Tryz.prog 12 call) {i k : Nat} {s : Option A} {n : Nat} {l : List (Nat × AO)} {chk : Option (Value × A) → Bool} (h : pieceOk st call i k s n l = true) (hk : From st (i + k) (some (mkH n l)) chk) : From st i s chk := by
  intro fn L t1 xs a0 hst
  obtain ⟨r, a2, c2, lf2, h1, h2, h3, h4⟩ := hk fn L t1 xs a0 hst
  subst hst
  unfold pieceOk at h
  simp only [] at h
  split at h
  · rename_i a' hq
    refine ⟨r, a2, c2, lf2, ?_, h2, h3, h4⟩
    have e : xs.drop i = (xs.drop i).take k ++ xs.drop (i + k) := by rw [← List.drop_drop, List.take_append_drop]
    rw [e]
    exact Lines.of_each hc _ hq (.sub (subOk_ok h) h1)
  · cases h
noncomputable def endOk (st : Option (Func × Lined × Fr × List (List UInt8) × A)) (call : Callee) (lf i : Nat) (s : Option A) (chk : Option (Value × A) → Bool) : Bool :=
  match st with
  | some (fn, L, t1, xs, a0) => match eachLine (codeB Tryz.prog call L.body) t1 L.p L.d (xs.drop i) (getS s a0) with
    | some a2 => match Abs.code Tryz.prog call lf L.rest t1 a2 with
      | some r => chk (leave Tryz.prog fn (some r))
      | none => false
    | none => false
  | none => false
theorem From.end {st : Option (Func × Lined × Fr × List (List UInt8) × A)} {call : Callee} (hc : CallOk Tryz.prog 12 call) {lf i : Nat} {s : Option A} {chk : Option (Value × A) → Bool} (h : endOk st call lf i s chk = true) : From st i s chk := by
  intro fn L t1 xs a0 hst
  subst hst
  unfold endOk at h
  simp only [] at h
  split at h
  · rename_i a2 hq
    split at h
    · rename_i r hr
      have := Lines.of_each hc _ hq (.nil (P := Tryz.prog) (G := 12) (body := L.body) (t := t1) (p := L.p) (d := L.d) a2)
      rw [List.append_nil] at this
      exact ⟨r, a2, call, lf, this, hc, hr, h⟩
    · cases h
  · cases h
theorem run_of_from {f : FuncId} {c1 : Callee} (hc1 : CallOk Tryz.prog 12 c1) (hm : Tryz.prog.follows .mixedOrders = true) {lf : Nat} {args : List Value} {a : A} {chk : Option (Value × A) → Bool} (hst : (startL f c1 lf args a).isSome = true) (h : From (startL f c1 lf args a) 0 none chk) (hn : chk none = false) :
    ∃ v a', chk (some (v, a')) = true ∧ OkRun f args a v a' := by
  cases hq : startL f c1 lf args a with
  | none => rw [hq] at hst; cases hst
  | some q =>
    obtain ⟨fn, L, t1, xs, a0⟩ := q
    obtain ⟨r, a2, c2, lf2, h1, h2, h3, h4⟩ := h fn L t1 xs a0 hq
    cases hl : leave Tryz.prog fn (some r) with
    | none => rw [hl, hn] at h4; cases h4
    | some va =>
      obtain ⟨v, a'⟩ := va
      rw [hl] at h4
      refine ⟨v, a', h4, ?_⟩
      unfold startL at hq
      split at hq
      · rename_i fn' hf
        split at hq
        · rename_i c hb
          split at hq
          · rename_i L' hL
            split at hq
            · rename_i hok
              simp only [Bool.and_eq_true] at hok
              split at hq
              · rename_i t1' a1 hpre
                split at hq
                · rename_i bn xs' htx
                  cases hq
                  obtain ⟨hcode, hfit⟩ := toLined_ok hL
                  subst hcode
                  exact lined_run_ok hm _ hfit hok.1.1 hf hb (Nat.le_of_ble_eq_true hok.1.2) (Nat.le_of_ble_eq_true hok.2) ⟨c1, lf, c2, lf2, _, a1, bn, _, a2, hc1, h2, hpre, htx, h1, h3⟩ hl
                · cases hq
              · cases hq
            · cases hq
          · cases hq
        · cases hq
      · cases hq
theorem OkRun.of_call {call : Callee} (hc : CallOk Tryz.prog 12 call) {f : FuncId} {args : List Value} {a a' : A} {v : Value} (h : call f args a = some (v, a')) : OkRun f args a v a' := fun ρ w cargs h1 h2 h3 h4 => hc f args a v a' h ρ w cargs h1 h2 h3 h4
end Go.Proofs.YtjopodnlffaogaaGreatDoor.Abs
end
section
namespace Go.Proofs.YtjopodnlffaogaaGreatDoor.Tp
open Go.RowKit Go.Proofs.YtjopodnlffaogaaGreatDoorW.PrintWords Go.Proofs.YtjopodnlffaogaaGreatDoorW.PrintLast Go.Proofs.YtjopodnlffaogaaGreatDoorW.PrintMore
attribute [local go_sem] max2_int min2_int max_two min_two max_three min_three max_four min_four
set_option linter.unusedVariables false
set_option linter.unusedSimpArgs false
structure Ins where
  op : Int
  d : Int
  s : Int
  t : Int
  u : Int
  a : Int
  k : Int
  to_ : Int
def kins : Kd Ins := Kd.iso ((Kd.pair (Kd.int .i64) (Kd.pair (Kd.int .i64) (Kd.pair (Kd.int .i64) (Kd.pair (Kd.int .i64) (Kd.pair (Kd.int .i64) (Kd.pair (Kd.int .i64) (Kd.pair (Kd.int .u32) (Kd.int .i64))))))))) (fun x : Ins => (x.op, x.d, x.s, x.t, x.u, x.a, x.k, x.to_))
abbrev Ins.cells (x : Ins) : List Value := [.int .i64 x.op, .int .i64 x.d, .int .i64 x.s, .int .i64 x.t, .int .i64 x.u, .int .i64 x.a, .int .u32 x.k, .int .i64 x.to_]
theorem kins_mkM (w : World) (base : Nat) (ok : Nat → Prop) (x : Ins) : kins.M w base ok x x.cells := ⟨[.int .i64 x.op], [.int .i64 x.d, .int .i64 x.s, .int .i64 x.t, .int .i64 x.u, .int .i64 x.a, .int .u32 x.k, .int .i64 x.to_], rfl, rfl, ⟨[.int .i64 x.d], [.int .i64 x.s, .int .i64 x.t, .int .i64 x.u, .int .i64 x.a, .int .u32 x.k, .int .i64 x.to_], rfl, rfl, ⟨[.int .i64 x.s], [.int .i64 x.t, .int .i64 x.u, .int .i64 x.a, .int .u32 x.k, .int .i64 x.to_], rfl, rfl, ⟨[.int .i64 x.t], [.int .i64 x.u, .int .i64 x.a, .int .u32 x.k, .int .i64 x.to_], rfl, rfl, ⟨[.int .i64 x.u], [.int .i64 x.a, .int .u32 x.k, .int .i64 x.to_], rfl, rfl, ⟨[.int .i64 x.a], [.int .u32 x.k, .int .i64 x.to_], rfl, rfl, ⟨[.int .u32 x.k], [.int .i64 x.to_], rfl, rfl, rfl⟩⟩⟩⟩⟩⟩⟩
theorem kins_open {w : World} {x : Ins} {cs : List Value} (h : kins.K w x cs) : cs = x.cells := by
  obtain ⟨_, _, rfl, rfl, ⟨_, _, rfl, rfl, ⟨_, _, rfl, rfl, ⟨_, _, rfl, rfl, ⟨_, _, rfl, rfl, ⟨_, _, rfl, rfl, ⟨_, _, rfl, rfl, rfl⟩⟩⟩⟩⟩⟩⟩ := h
  rfl
structure En where
  kind : Int
  thread : Int
  now : Int
instance : Inhabited Ins := ⟨⟨0, 0, 0, 0, 0, 0, 0, 0⟩⟩
instance : Inhabited En := ⟨⟨0, 0, 0⟩⟩
theorem empty_R {α : Type} (d : Kd α) (e : Nat) (w : World) (base : Nat) (hb : base ≤ w.heap.size := by omega) : d.R e (w.alloc (.cells #[] e)) base (fun _ => True) (.slice (some ⟨w.heap.size, 0, none⟩) 0 0) [] := by
  refine ⟨fun _ _ => trivial, [], ?_, ?_⟩
  · have h := World.ownsRow_made (base := base) (size := d.sz) (e := e) w #[] 0 hb (by decide) (by simp)
    simpa using h
  · exact Reps.none _ _
theorem info3 : (Tryz.prog.info? 3).map (fun i => (i.zero, i.size, i.bytes)) = some (some (.int .i64 0), (Kd.int .i64).sz, 8) := by kernel_rfl
set_option maxHeartbeats 4000000 in
set_option maxRecDepth 100000 in
theorem cloneInts_calls (A : Option Addr) (c : Nat) (xs : List Int) (w : World) (hC : Kd.C (Kd.int .i64) w A xs.length xs) (hc : xs.length ≤ c) (hn : A = none → xs = []) (hl : xs.length ≤ 1000000) : Calls Tryz.prog 171 #[.slice A xs.length c] w fun e w' =>
    ∃ v, e = .returned v ∧ Kd.R (Kd.int .i64) 3 w' w.heap.size (fun _ => True) v xs ∧ Below w.heap.size w w' := by
  cases A with
  | none =>
    obtain rfl := hn rfl
    clear hC hc hn hl
    have hq := fun (W : World) => Lib.run_eql_slice_nil (P := Tryz.prog) W 32 3 none 0 c 0 0 Tryz.underlying32
    go_enter Tryz.func171, Tryz.ntmps171
    go_wp2
    go_ret
    exact ⟨_, rfl, Kd.R_nil _ _ _ _ _, Below.refl _ _⟩
  | some ad =>
    have HC := Aside0.mk hC
    have HL := Aside0.mk hl
    clear hC hc hn hl
    have hq := fun (W : World) => Lib.run_eql_slice_nil (P := Tryz.prog) W 32 3 (some ad) xs.length c 0 0 Tryz.underlying32
    go_enter Tryz.func171, Tryz.ntmps171
    go_wp2_with ((with_reducible refine gate_builtin (b := .append) (xs := #[.tmp 5, .tmp 6]) rfl ?_); at_builtin; refine Kd.R_append_rows (Kd.int .i64) (Rr := (Kd.int .i64).K w) (w0 := w) w.heap.size rfl (.tmp 5) (.tmp 6) 32 3 (.int .i64 0) 8 rfl Tryz.underlying32 info3 rfl (by decide) (by omega) _ [] xs (some ad) xs.length c (fun _ => True) (fun _ => False) rfl rfl ?aR (Kd.C_alloc HC.out _) ?aM (fun _ hk => hk.elim) (fun _ _ => trivial) (below_alloc (Below.refl _ _) _) (by simp) (by have := HL.out; simp; omega) ?_; (case aR => exact empty_R _ _ _ _); (case aM => intro x cs h; exact h); intro v1 w8 ho hb hg hat)
    go_ret
    exact ⟨_, rfl, ho, hb⟩
theorem info214 : (Tryz.prog.info? 214).map (fun i => (i.zero, i.size, i.bytes)) = some (some (.agg #[.int .i64 0, .int .i64 0, .int .i64 0, .int .i64 0, .int .i64 0, .int .i64 0, .int .u32 0, .int .i64 0]), kins.sz, 64) := by kernel_rfl
set_option maxHeartbeats 4000000 in
set_option maxRecDepth 100000 in
theorem cloneIns_calls (A : Option Addr) (c : Nat) (xs : List Ins) (w : World) (hC : Kd.C kins w A xs.length xs) (hc : xs.length ≤ c) (hn : A = none → xs = []) (hl : xs.length ≤ 1000000) : Calls Tryz.prog 177 #[.slice A xs.length c] w fun e w' =>
    ∃ v, e = .returned v ∧ Kd.R kins 214 w' w.heap.size (fun _ => True) v xs ∧ Below w.heap.size w w' := by
  cases A with
  | none =>
    obtain rfl := hn rfl
    clear hC hc hn hl
    have hq := fun (W : World) => Lib.run_eql_slice_nil (P := Tryz.prog) W 110 214 none 0 c 0 0 Tryz.underlying110
    go_enter Tryz.func177, Tryz.ntmps177
    go_wp2
    go_ret
    exact ⟨_, rfl, Kd.R_nil _ _ _ _ _, Below.refl _ _⟩
  | some ad =>
    have HC := Aside0.mk hC
    have HL := Aside0.mk hl
    clear hC hc hn hl
    have hq := fun (W : World) => Lib.run_eql_slice_nil (P := Tryz.prog) W 110 214 (some ad) xs.length c 0 0 Tryz.underlying110
    go_enter Tryz.func177, Tryz.ntmps177
    go_wp2_with ((with_reducible refine gate_builtin (b := .append) (xs := #[.tmp 5, .tmp 6]) rfl ?_); at_builtin; refine Kd.R_append_rows kins (Rr := kins.K w) (w0 := w) w.heap.size rfl (.tmp 5) (.tmp 6) 110 214 (.agg #[.int .i64 0, .int .i64 0, .int .i64 0, .int .i64 0, .int .i64 0, .int .i64 0, .int .u32 0, .int .i64 0]) 64 rfl Tryz.underlying110 info214 rfl (by decide) (by omega) _ [] xs (some ad) xs.length c (fun _ => True) (fun _ => False) rfl rfl ?aR (Kd.C_alloc HC.out _) ?aM (fun _ hk => hk.elim) (fun _ _ => trivial) (below_alloc (Below.refl _ _) _) (by simp) (by have := HL.out; simp; omega) ?_; (case aR => exact empty_R _ _ _ _); (case aM => intro x cs h; rw [kins_open h]; exact kins_mkM _ _ _ _); intro v1 w8 ho hb hg hat)
    go_ret
    exact ⟨_, rfl, ho, hb⟩
end Go.Proofs.YtjopodnlffaogaaGreatDoor.Tp
end
section
namespace Go.Proofs.YtjopodnlffaogaaGreatDoor.Tp
open Go.RowKit Go.Proofs.YtjopodnlffaogaaGreatDoorW.PrintWords Go.Proofs.YtjopodnlffaogaaGreatDoorW.PrintLast Go.Proofs.YtjopodnlffaogaaGreatDoorW.PrintMore
attribute [local go_sem] max2_int min2_int max_two min_two max_three min_three max_four min_four
set_option linter.unusedVariables false
set_option linter.unusedSimpArgs false
def ticketText : ByteArray := ⟨#[108, 111, 99, 107, 58, 10, 102, 97, 100, 100, 32, 114, 49, 32, 48, 32, 114, 48, 32, 49, 10, 109, 97, 114, 107, 32, 49, 10, 97, 119, 97, 105, 116, 32, 114, 50, 32, 49, 32, 114, 48, 32, 101, 113, 32, 114, 49, 10, 109, 97, 114, 107, 32, 50, 10, 100, 111, 110, 101, 32, 49, 10, 117, 110, 108, 111, 99, 107, 58, 10, 97, 100, 100, 107, 32, 114, 49, 32, 114, 49, 32, 49, 10, 115, 116, 111, 114, 101, 32, 49, 32, 114, 48, 32, 114, 49, 10, 109, 97, 114, 107, 32, 52, 10, 100, 111, 110, 101, 32, 50, 10]⟩
def graunkeText : ByteArray := ⟨#[108, 111, 99, 107, 58, 10, 115, 101, 108, 102, 32, 114, 49, 10, 108, 111, 97, 100, 32, 114, 50, 32, 49, 32, 114, 49, 10, 115, 104, 108, 32, 114, 51, 32, 114, 49, 32, 49, 10, 111, 114, 32, 114, 51, 32, 114, 51, 32, 114, 50, 10, 115, 119, 97, 112, 32, 114, 52, 32, 48, 32, 114, 48, 32, 114, 51, 10, 109, 97, 114, 107, 32, 49, 10, 97, 110, 100, 107, 32, 114, 53, 32, 114, 52, 32, 49, 10, 115, 104, 114, 32, 114, 54, 32, 114, 52, 32, 49, 10, 97, 119, 97, 105, 116, 32, 114, 52, 32, 49, 32, 114, 54, 32, 110, 101, 32, 114, 53, 10, 109, 97, 114, 107, 32, 50, 10, 100, 111, 110, 101, 32, 49, 10, 117, 110, 108, 111, 99, 107, 58, 10, 99, 111, 110, 115, 116, 32, 114, 51, 32, 49, 10, 98, 101, 113, 32, 114, 50, 32, 114, 48, 32, 116, 117, 114, 110, 10, 99, 111, 110, 115, 116, 32, 114, 51, 32, 48, 10, 116, 117, 114, 110, 58, 10, 115, 116, 111, 114, 101, 32, 49, 32, 114, 49, 32, 114, 51, 10, 109, 97, 114, 107, 32, 52, 10, 100, 111, 110, 101, 32, 50, 10]⟩
def clhText : ByteArray := ⟨#[108, 111, 99, 107, 58, 10, 99, 111, 110, 115, 116, 32, 114, 49, 32, 49, 10, 115, 116, 111, 114, 101, 32, 49, 32, 114, 55, 32, 114, 49, 10, 115, 119, 97, 112, 32, 114, 54, 32, 48, 32, 114, 48, 32, 114, 55, 10, 109, 97, 114, 107, 32, 49, 10, 97, 119, 97, 105, 116, 32, 114, 49, 32, 49, 32, 114, 54, 32, 101, 113, 32, 114, 48, 10, 109, 97, 114, 107, 32, 50, 10, 100, 111, 110, 101, 32, 49, 10, 117, 110, 108, 111, 99, 107, 58, 10, 115, 116, 111, 114, 101, 32, 49, 32, 114, 55, 32, 114, 48, 10, 109, 97, 114, 107, 32, 52, 10, 109, 111, 118, 101, 32, 114, 55, 32, 114, 54, 10, 100, 111, 110, 101, 32, 50, 10]⟩
def mcsText : ByteArray := ⟨#[108, 111, 99, 107, 58, 10, 115, 101, 108, 102, 32, 114, 49, 10, 97, 100, 100, 107, 32, 114, 50, 32, 114, 49, 32, 49, 10, 115, 116, 111, 114, 101, 32, 49, 32, 114, 49, 32, 114, 48, 10, 99, 111, 110, 115, 116, 32, 114, 51, 32, 49, 10, 115, 116, 111, 114, 101, 32, 50, 32, 114, 49, 32, 114, 51, 10, 115, 119, 97, 112, 32, 114, 52, 32, 48, 32, 114, 48, 32, 114, 50, 10, 109, 97, 114, 107, 32, 49, 10, 98, 101, 113, 32, 114, 52, 32, 114, 48, 32, 103, 111, 116, 10, 97, 100, 100, 107, 32, 114, 52, 32, 114, 52, 32, 52, 50, 57, 52, 57, 54, 55, 50, 57, 53, 10, 115, 116, 111, 114, 101, 32, 49, 32, 114, 52, 32, 114, 50, 10, 97, 119, 97, 105, 116, 32, 114, 53, 32, 50, 32, 114, 49, 32, 101, 113, 32, 114, 48, 10, 103, 111, 116, 58, 10, 109, 97, 114, 107, 32, 50, 10, 100, 111, 110, 101, 32, 49, 10, 117, 110, 108, 111, 99, 107, 58, 10, 108, 111, 97, 100, 32, 114, 52, 32, 49, 32, 114, 49, 10, 98, 110, 101, 32, 114, 52, 32, 114, 48, 32, 104, 97, 110, 100, 10, 99, 97, 115, 32, 114, 53, 32, 48, 32, 114, 48, 32, 114, 50, 32, 114, 48, 10, 98, 101, 113, 32, 114, 53, 32, 114, 48, 32, 108, 105, 110, 107, 10, 109, 97, 114, 107, 32, 52, 10, 100, 111, 110, 101, 32, 50, 10, 108, 105, 110, 107, 58, 10, 97, 119, 97, 105, 116, 32, 114, 52, 32, 49, 32, 114, 49, 32, 110, 101, 32, 114, 48, 10, 104, 97, 110, 100, 58, 10, 97, 100, 100, 107, 32, 114, 52, 32, 114, 52, 32, 52, 50, 57, 52, 57, 54, 55, 50, 57, 53, 10, 115, 116, 111, 114, 101, 32, 50, 32, 114, 52, 32, 114, 48, 10, 109, 97, 114, 107, 32, 52, 10, 100, 111, 110, 101, 32, 50, 10]⟩
def k42Text : ByteArray := ⟨#[108, 111, 99, 107, 58, 10, 115, 101, 108, 102, 32, 114, 49, 10, 97, 100, 100, 107, 32, 114, 50, 32, 114, 49, 32, 50, 10, 99, 111, 110, 115, 116, 32, 114, 51, 32, 49, 10, 97, 103, 97, 105, 110, 58, 10, 108, 111, 97, 100, 32, 114, 52, 32, 48, 32, 114, 48, 10, 98, 110, 101, 32, 114, 52, 32, 114, 48, 32, 113, 117, 101, 117, 101, 10, 99, 97, 115, 32, 114, 53, 32, 48, 32, 114, 48, 32, 114, 48, 32, 114, 51, 10, 98, 101, 113, 32, 114, 53, 32, 114, 48, 32, 97, 103, 97, 105, 110, 10, 109, 97, 114, 107, 32, 49, 10, 109, 97, 114, 107, 32, 50, 10, 100, 111, 110, 101, 32, 49, 10, 113, 117, 101, 117, 101, 58, 10, 115, 116, 111, 114, 101, 32, 50, 32, 114, 49, 32, 114, 48, 10, 115, 116, 111, 114, 101, 32, 51, 32, 114, 49, 32, 114, 51, 10, 99, 97, 115, 32, 114, 53, 32, 48, 32, 114, 48, 32, 114, 52, 32, 114, 50, 10, 98, 101, 113, 32, 114, 53, 32, 114, 48, 32, 97, 103, 97, 105, 110, 10, 109, 97, 114, 107, 32, 49, 10, 98, 101, 113, 32, 114, 52, 32, 114, 51, 32, 102, 105, 114, 115, 116, 10, 97, 100, 100, 107, 32, 114, 52, 32, 114, 52, 32, 52, 50, 57, 52, 57, 54, 55, 50, 57, 52, 10, 115, 116, 111, 114, 101, 32, 50, 32, 114, 52, 32, 114, 50, 10, 106, 117, 109, 112, 32, 119, 97, 105, 116, 10, 102, 105, 114, 115, 116, 58, 10, 115, 116, 111, 114, 101, 32, 49, 32, 114, 48, 32, 114, 50, 10, 119, 97, 105, 116, 58, 10, 97, 119, 97, 105, 116, 32, 114, 53, 32, 51, 32, 114, 49, 32, 101, 113, 32, 114, 48, 10, 109, 97, 114, 107, 32, 50, 10, 108, 111, 97, 100, 32, 114, 52, 32, 50, 32, 114, 49, 10, 98, 110, 101, 32, 114, 52, 32, 114, 48, 32, 104, 97, 115, 10, 115, 116, 111, 114, 101, 32, 49, 32, 114, 48, 32, 114, 48, 10, 99, 97, 115, 32, 114, 53, 32, 48, 32, 114, 48, 32, 114, 50, 32, 114, 51, 10, 98, 110, 101, 32, 114, 53, 32, 114, 48, 32, 111, 117, 116, 10, 97, 119, 97, 105, 116, 32, 114, 52, 32, 50, 32, 114, 49, 32, 110, 101, 32, 114, 48, 10, 104, 97, 115, 58, 10, 115, 116, 111, 114, 101, 32, 49, 32, 114, 48, 32, 114, 52, 10, 111, 117, 116, 58, 10, 100, 111, 110, 101, 32, 49, 10, 117, 110, 108, 111, 99, 107, 58, 10, 108, 111, 97, 100, 32, 114, 52, 32, 49, 32, 114, 48, 10, 98, 110, 101, 32, 114, 52, 32, 114, 48, 32, 104, 97, 110, 100, 10, 99, 111, 110, 115, 116, 32, 114, 51, 32, 49, 10, 99, 97, 115, 32, 114, 53, 32, 48, 32, 114, 48, 32, 114, 51, 32, 114, 48, 10, 98, 101, 113, 32, 114, 53, 32, 114, 48, 32, 98, 101, 104, 105, 110, 100, 10, 109, 97, 114, 107, 32, 52, 10, 100, 111, 110, 101, 32, 50, 10, 98, 101, 104, 105, 110, 100, 58, 10, 97, 119, 97, 105, 116, 32, 114, 52, 32, 49, 32, 114, 48, 32, 110, 101, 32, 114, 48, 10, 104, 97, 110, 100, 58, 10, 97, 100, 100, 107, 32, 114, 52, 32, 114, 52, 32, 52, 50, 57, 52, 57, 54, 55, 50, 57, 52, 10, 115, 116, 111, 114, 101, 32, 51, 32, 114, 52, 32, 114, 48, 10, 109, 97, 114, 107, 32, 52, 10, 100, 111, 110, 101, 32, 50, 10]⟩
def clhtryText : ByteArray := ⟨#[108, 111, 99, 107, 58, 10, 116, 97, 107, 101, 32, 114, 55, 10, 98, 101, 113, 32, 114, 55, 32, 114, 48, 32, 102, 117, 108, 108, 10, 115, 116, 111, 114, 101, 32, 49, 32, 114, 55, 32, 114, 48, 10, 115, 119, 97, 112, 32, 114, 54, 32, 48, 32, 114, 48, 32, 114, 55, 10, 109, 97, 114, 107, 32, 49, 10, 108, 111, 111, 107, 58, 10, 99, 111, 110, 115, 116, 32, 114, 49, 32, 49, 10, 97, 119, 97, 105, 116, 32, 114, 50, 32, 49, 32, 114, 54, 32, 110, 101, 32, 114, 48, 32, 101, 108, 115, 101, 32, 108, 101, 97, 118, 101, 10, 98, 101, 113, 32, 114, 50, 32, 114, 49, 32, 103, 111, 116, 10, 102, 114, 101, 101, 32, 114, 54, 10, 97, 100, 100, 107, 32, 114, 54, 32, 114, 50, 32, 52, 50, 57, 52, 57, 54, 55, 50, 57, 52, 10, 106, 117, 109, 112, 32, 108, 111, 111, 107, 10, 103, 111, 116, 58, 10, 109, 97, 114, 107, 32, 50, 10, 102, 114, 101, 101, 32, 114, 54, 10, 100, 111, 110, 101, 32, 49, 10, 108, 101, 97, 118, 101, 58, 10, 99, 97, 115, 32, 114, 51, 32, 48, 32, 114, 48, 32, 114, 55, 32, 114, 54, 10, 98, 101, 113, 32, 114, 51, 32, 114, 48, 32, 115, 116, 97, 121, 10, 109, 97, 114, 107, 32, 51, 10, 102, 114, 101, 101, 32, 114, 55, 10, 100, 111, 110, 101, 32, 48, 10, 115, 116, 97, 121, 58, 10, 97, 100, 100, 107, 32, 114, 51, 32, 114, 54, 32, 50, 10, 115, 116, 111, 114, 101, 32, 49, 32, 114, 55, 32, 114, 51, 10, 109, 97, 114, 107, 32, 51, 10, 100, 111, 110, 101, 32, 48, 10, 102, 117, 108, 108, 58, 10, 100, 111, 110, 101, 32, 51, 10, 117, 110, 108, 111, 99, 107, 58, 10, 99, 111, 110, 115, 116, 32, 114, 49, 32, 49, 10, 115, 116, 111, 114, 101, 32, 49, 32, 114, 55, 32, 114, 49, 10, 109, 97, 114, 107, 32, 52, 10, 100, 111, 110, 101, 32, 50, 10]⟩
def mcstryText : ByteArray := ⟨#[108, 111, 99, 107, 58, 10, 116, 97, 107, 101, 32, 114, 55, 10, 98, 101, 113, 32, 114, 55, 32, 114, 48, 32, 102, 117, 108, 108, 10, 115, 116, 111, 114, 101, 32, 49, 32, 114, 55, 32, 114, 48, 10, 115, 116, 111, 114, 101, 32, 50, 32, 114, 55, 32, 114, 48, 10, 115, 119, 97, 112, 32, 114, 54, 32, 48, 32, 114, 48, 32, 114, 55, 10, 109, 97, 114, 107, 32, 49, 10, 98, 101, 113, 32, 114, 54, 32, 114, 48, 32, 103, 111, 116, 10, 115, 116, 111, 114, 101, 32, 49, 32, 114, 54, 32, 114, 55, 10, 99, 111, 110, 115, 116, 32, 114, 49, 32, 49, 10, 97, 119, 97, 105, 116, 32, 114, 50, 32, 50, 32, 114, 55, 32, 101, 113, 32, 114, 49, 32, 101, 108, 115, 101, 32, 108, 101, 97, 118, 101, 10, 103, 111, 116, 58, 10, 109, 97, 114, 107, 32, 50, 10, 100, 111, 110, 101, 32, 49, 10, 108, 101, 97, 118, 101, 58, 10, 99, 111, 110, 115, 116, 32, 114, 51, 32, 50, 10, 99, 97, 115, 32, 114, 52, 32, 50, 32, 114, 55, 32, 114, 48, 32, 114, 51, 10, 98, 101, 113, 32, 114, 52, 32, 114, 48, 32, 103, 111, 116, 10, 109, 97, 114, 107, 32, 51, 10, 100, 111, 110, 101, 32, 48, 10, 102, 117, 108, 108, 58, 10, 100, 111, 110, 101, 32, 51, 10, 117, 110, 108, 111, 99, 107, 58, 10, 108, 111, 97, 100, 32, 114, 54, 32, 49, 32, 114, 55, 10, 98, 110, 101, 32, 114, 54, 32, 114, 48, 32, 104, 97, 110, 100, 10, 99, 97, 115, 32, 114, 52, 32, 48, 32, 114, 48, 32, 114, 55, 32, 114, 48, 10, 98, 101, 113, 32, 114, 52, 32, 114, 48, 32, 108, 105, 110, 107, 10, 109, 97, 114, 107, 32, 52, 10, 102, 114, 101, 101, 32, 114, 55, 10, 100, 111, 110, 101, 32, 50, 10, 108, 105, 110, 107, 58, 10, 97, 119, 97, 105, 116, 32, 114, 54, 32, 49, 32, 114, 55, 32, 110, 101, 32, 114, 48, 10, 104, 97, 110, 100, 58, 10, 99, 111, 110, 115, 116, 32, 114, 49, 32, 49, 10, 99, 97, 115, 32, 114, 52, 32, 50, 32, 114, 54, 32, 114, 48, 32, 114, 49, 10, 98, 101, 113, 32, 114, 52, 32, 114, 48, 32, 115, 107, 105, 112, 10, 109, 97, 114, 107, 32, 52, 10, 102, 114, 101, 101, 32, 114, 55, 10, 100, 111, 110, 101, 32, 50, 10, 115, 107, 105, 112, 58, 10, 102, 114, 101, 101, 32, 114, 55, 10, 109, 111, 118, 101, 32, 114, 55, 32, 114, 54, 10, 106, 117, 109, 112, 32, 117, 110, 108, 111, 99, 107, 10]⟩
def ref14Text : ByteArray := ticketText
def ref16Text : ByteArray := graunkeText
def ref17Text : ByteArray := clhText
def ref18Text : ByteArray := mcsText
def ref19Text : ByteArray := k42Text
def ref20Text : ByteArray := clhtryText
def ref21Text : ByteArray := mcstryText
set_option maxRecDepth 100000 in
theorem ticket_text (w : World) : Calls Tryz.prog 160 #[] w fun e w' => e = .returned (.string ticketText) ∧ w = w' := by
  go_enter Tryz.func160, Tryz.ntmps160
  go_wp2
  go_ret
  exact ⟨rfl, rfl⟩
set_option maxRecDepth 100000 in
theorem graunke_text (w : World) : Calls Tryz.prog 162 #[] w fun e w' => e = .returned (.string graunkeText) ∧ w = w' := by
  go_enter Tryz.func162, Tryz.ntmps162
  go_wp2
  go_ret
  exact ⟨rfl, rfl⟩
set_option maxRecDepth 100000 in
theorem clh_text (w : World) : Calls Tryz.prog 163 #[] w fun e w' => e = .returned (.string clhText) ∧ w = w' := by
  go_enter Tryz.func163, Tryz.ntmps163
  go_wp2
  go_ret
  exact ⟨rfl, rfl⟩
set_option maxRecDepth 100000 in
theorem mcs_text (w : World) : Calls Tryz.prog 164 #[] w fun e w' => e = .returned (.string mcsText) ∧ w = w' := by
  go_enter Tryz.func164, Tryz.ntmps164
  go_wp2
  go_ret
  exact ⟨rfl, rfl⟩
set_option maxRecDepth 100000 in
theorem k42_text (w : World) : Calls Tryz.prog 165 #[] w fun e w' => e = .returned (.string k42Text) ∧ w = w' := by
  go_enter Tryz.func165, Tryz.ntmps165
  go_wp2
  go_ret
  exact ⟨rfl, rfl⟩
set_option maxRecDepth 100000 in
theorem clhtry_text (w : World) : Calls Tryz.prog 166 #[] w fun e w' => e = .returned (.string clhtryText) ∧ w = w' := by
  go_enter Tryz.func166, Tryz.ntmps166
  go_wp2
  go_ret
  exact ⟨rfl, rfl⟩
set_option maxRecDepth 100000 in
theorem mcstry_text (w : World) : Calls Tryz.prog 167 #[] w fun e w' => e = .returned (.string mcstryText) ∧ w = w' := by
  go_enter Tryz.func167, Tryz.ntmps167
  go_wp2
  go_ret
  exact ⟨rfl, rfl⟩
set_option maxRecDepth 100000 in
theorem ref14_text (w : World) : Calls Tryz.prog 54 #[] w fun e w' => e = .returned (.string ref14Text) ∧ w = w' := by
  go_enter Tryz.func54, Tryz.ntmps54
  go_wp2
  go_ret
  exact ⟨rfl, rfl⟩
set_option maxRecDepth 100000 in
theorem ref16_text (w : World) : Calls Tryz.prog 56 #[] w fun e w' => e = .returned (.string ref16Text) ∧ w = w' := by
  go_enter Tryz.func56, Tryz.ntmps56
  go_wp2
  go_ret
  exact ⟨rfl, rfl⟩
set_option maxRecDepth 100000 in
theorem ref17_text (w : World) : Calls Tryz.prog 57 #[] w fun e w' => e = .returned (.string ref17Text) ∧ w = w' := by
  go_enter Tryz.func57, Tryz.ntmps57
  go_wp2
  go_ret
  exact ⟨rfl, rfl⟩
set_option maxRecDepth 100000 in
theorem ref18_text (w : World) : Calls Tryz.prog 58 #[] w fun e w' => e = .returned (.string ref18Text) ∧ w = w' := by
  go_enter Tryz.func58, Tryz.ntmps58
  go_wp2
  go_ret
  exact ⟨rfl, rfl⟩
set_option maxRecDepth 100000 in
theorem ref19_text (w : World) : Calls Tryz.prog 59 #[] w fun e w' => e = .returned (.string ref19Text) ∧ w = w' := by
  go_enter Tryz.func59, Tryz.ntmps59
  go_wp2
  go_ret
  exact ⟨rfl, rfl⟩
set_option maxRecDepth 100000 in
theorem ref20_text (w : World) : Calls Tryz.prog 60 #[] w fun e w' => e = .returned (.string ref20Text) ∧ w = w' := by
  go_enter Tryz.func60, Tryz.ntmps60
  go_wp2
  go_ret
  exact ⟨rfl, rfl⟩
set_option maxRecDepth 100000 in
theorem ref21_text (w : World) : Calls Tryz.prog 61 #[] w fun e w' => e = .returned (.string ref21Text) ∧ w = w' := by
  go_enter Tryz.func61, Tryz.ntmps61
  go_wp2
  go_ret
  exact ⟨rfl, rfl⟩
end Go.Proofs.YtjopodnlffaogaaGreatDoor.Tp
end
section
namespace Go.Proofs.YtjopodnlffaogaaGreatDoor.Tp
open Go.RowKit Go.Proofs.YtjopodnlffaogaaGreatDoorW.PrintWords Go.Proofs.YtjopodnlffaogaaGreatDoorW.PrintLast Go.Proofs.YtjopodnlffaogaaGreatDoorW.PrintMore
attribute [local go_sem] max2_int min2_int max_two min_two max_three min_three max_four min_four
set_option linter.unusedVariables false
set_option linter.unusedSimpArgs false
open Go.Proofs.YtjopodnlffaogaaGreatDoor.PTopConfig
def qlock_Try.f (a0 : Int) : Option (Bool) := if a0 = 7 then (some true) else (some (a0 == 8))
set_option maxHeartbeats 8000000 in
set_option maxRecDepth 100000 in
theorem qlock_Try.calls (a0 : Int) (r : Bool) (w : World) (h : qlock_Try.f a0 = some r) :
    Calls Tryz.prog 16 #[.int .i64 a0] w fun e w' => e = .returned (.bool r) ∧ Drawn0 w w' := by
  have H : (if a0 = 7 then (some true) else (some (a0 == 8))) = some r := h
  clear h
  by_cases c2 : a0 = 7
  · rw [if_pos c2] at H
    have c2b0 : (a0 == 7) = true := beq_iff_eq.mpr c2
    have c2b1 : (a0 != 7) = false := bne_eq_false_iff_eq.mpr c2
    clear c2
    obtain rfl := Option.some.inj H
    go_enter Tryz.func16, Tryz.ntmps16
    go_wp2
    go_ret
    exact ⟨by first | rfl | (simp; done) | (simp [*]; done), by repeat (first | exact Drawn0.refl _ | apply Drawn0.step)⟩
  · rw [if_neg c2] at H
    have c2b0 : (a0 == 7) = false := beq_eq_false_iff_ne.mpr c2
    have c2b1 : (a0 != 7) = true := bne_iff_ne.mpr c2
    obtain rfl := Option.some.inj H
    go_enter Tryz.func16, Tryz.ntmps16
    go_wp2
    go_ret
    exact ⟨by first | rfl | (simp; done) | (simp [*]; done), by repeat (first | exact Drawn0.refl _ | apply Drawn0.step)⟩
def handle_New.f (a0 : Int) (a1 : Int) : Option (Int × Int) := if a0 < 0 then (some (0, 1)) else (if a0 ≥ 4096 then (some (0, 1)) else (if a1 < 0 then (some (0, 1)) else (if a1 ≥ 262144 then (some (0, 1)) else (some ((Go.bits .or .i64 (wrap64 (a1 * 4096)) a0) % 4294967296, 0)))))
set_option maxHeartbeats 8000000 in
set_option maxRecDepth 100000 in
theorem handle_New.calls (a0 : Int) (a1 : Int) (r1 : Int) (r2 : Int) (w : World) (h : handle_New.f a0 a1 = some (r1, r2)) :
    Calls Tryz.prog 169 #[.int .i64 a0, .int .i64 a1] w fun e w' => e = .returned (.tuple #[.int .u32 r1, .int .i64 r2]) ∧ Drawn0 w w' := by
  have H : (if a0 < 0 then (some (0, 1)) else (if a0 ≥ 4096 then (some (0, 1)) else (if a1 < 0 then (some (0, 1)) else (if a1 ≥ 262144 then (some (0, 1)) else (some ((Go.bits .or .i64 (wrap64 (a1 * 4096)) a0) % 4294967296, 0)))))) = some (r1, r2) := h
  clear h
  by_cases c3 : a0 < 0
  · rw [if_pos c3] at H
    have c3b0 : decide (a0 < 0) = true := decide_eq_true c3
    clear c3
    simp only [Option.some.injEq, Prod.mk.injEq] at H
    obtain ⟨rfl, rfl⟩ := H
    go_enter Tryz.func169, Tryz.ntmps169
    go_wp2
    go_ret2
    exact ⟨by first | rfl | (simp; done) | (simp [*]; done), by repeat (first | exact Drawn0.refl _ | apply Drawn0.step)⟩
  · rw [if_neg c3] at H
    have c3b0 : decide (a0 < 0) = false := decide_eq_false c3
    clear c3
    by_cases c4 : a0 ≥ 4096
    · rw [if_pos c4] at H
      have c4b0 : decide (4096 ≤ a0) = true := decide_eq_true c4
      clear c4
      simp only [Option.some.injEq, Prod.mk.injEq] at H
      obtain ⟨rfl, rfl⟩ := H
      go_enter Tryz.func169, Tryz.ntmps169
      go_wp2
      go_ret2
      exact ⟨by first | rfl | (simp; done) | (simp [*]; done), by repeat (first | exact Drawn0.refl _ | apply Drawn0.step)⟩
    · rw [if_neg c4] at H
      have c4b0 : decide (4096 ≤ a0) = false := decide_eq_false c4
      clear c4
      by_cases c5 : a1 < 0
      · rw [if_pos c5] at H
        have c5b0 : decide (a1 < 0) = true := decide_eq_true c5
        clear c5
        simp only [Option.some.injEq, Prod.mk.injEq] at H
        obtain ⟨rfl, rfl⟩ := H
        go_enter Tryz.func169, Tryz.ntmps169
        go_wp2
        go_ret2
        exact ⟨by first | rfl | (simp; done) | (simp [*]; done), by repeat (first | exact Drawn0.refl _ | apply Drawn0.step)⟩
      · rw [if_neg c5] at H
        have c5b0 : decide (a1 < 0) = false := decide_eq_false c5
        clear c5
        by_cases c6 : a1 ≥ 262144
        · rw [if_pos c6] at H
          have c6b0 : decide (262144 ≤ a1) = true := decide_eq_true c6
          clear c6
          simp only [Option.some.injEq, Prod.mk.injEq] at H
          obtain ⟨rfl, rfl⟩ := H
          go_enter Tryz.func169, Tryz.ntmps169
          go_wp2
          go_ret2
          exact ⟨by first | rfl | (simp; done) | (simp [*]; done), by repeat (first | exact Drawn0.refl _ | apply Drawn0.step)⟩
        · rw [if_neg c6] at H
          have c6b0 : decide (262144 ≤ a1) = false := decide_eq_false c6
          clear c6
          simp only [Option.some.injEq, Prod.mk.injEq] at H
          obtain ⟨rfl, rfl⟩ := H
          go_enter Tryz.func169, Tryz.ntmps169
          go_wp2
          go_ret2
          exact ⟨by first | rfl | (simp; done) | (simp [*]; done), by repeat (first | exact Drawn0.refl _ | apply Drawn0.step)⟩
end Go.Proofs.YtjopodnlffaogaaGreatDoor.Tp
end
section
namespace Go.Proofs.YtjopodnlffaogaaGreatDoor.Tp
open Go.RowKit Go.Proofs.YtjopodnlffaogaaGreatDoorW.PrintWords Go.Proofs.YtjopodnlffaogaaGreatDoorW.PrintLast Go.Proofs.YtjopodnlffaogaaGreatDoorW.PrintMore
attribute [local go_sem] max2_int min2_int max_two min_two max_three min_three max_four min_four
set_option linter.unusedVariables false
set_option linter.unusedSimpArgs false
section
variable {α : Type} (f : α → List Value) (k : Nat) (hk : ∀ x, (f x).length = k)
include hk
theorem flat_length (l : List α) : (l.flatMap f).length = l.length * k := by
  induction l with
  | nil => simp
  | cons a l ih => rw [List.flatMap_cons, List.length_append, ih, hk, List.length_cons, Nat.succ_mul, Nat.add_comm]
theorem flat_at : ∀ (l : List α) (i j : Nat), j < k → (l.flatMap f)[i * k + j]? = (l[i]?).bind (fun x => (f x)[j]?)
  | [], i, j, _ => by simp
  | a :: l, 0, j, hj => by
    rw [List.flatMap_cons, Nat.zero_mul, Nat.zero_add, List.getElem?_append_left (by rw [hk]; exact hj)]
    simp
  | a :: l, i + 1, j, hj => by
    rw [List.flatMap_cons, List.getElem?_append_right (by rw [hk, Nat.succ_mul]; omega), hk]
    have : (i + 1) * k + j - k = i * k + j := by rw [Nat.succ_mul]; omega
    rw [this, flat_at l i j hj]
    simp
theorem flat_set : ∀ (l : List α) (i j : Nat) (v : Value) (y : α), j < k → (hi : i < l.length) → f y = (f l[i]).set j v → (l.flatMap f).set (i * k + j) v = (l.set i y).flatMap f
  | a :: l, 0, j, v, y, hj, hi, h => by
    rw [List.flatMap_cons, Nat.zero_mul, Nat.zero_add, List.set_append_left _ _ (by rw [hk]; exact hj), List.set_cons_zero, List.flatMap_cons, h]
    simp
  | a :: l, i + 1, j, v, y, hj, hi, h => by
    rw [List.flatMap_cons, List.set_append_right _ _ (by rw [hk, Nat.succ_mul]; omega), hk, List.set_cons_succ, List.flatMap_cons]
    have : (i + 1) * k + j - k = i * k + j := by rw [Nat.succ_mul]; omega
    rw [this, flat_set l i j v y hj (by simpa using hi) (by simpa using h)]
end
structure Cr where
  r0 : Int
  r1 : Int
  r2 : Int
  r3 : Int
  r4 : Int
  r5 : Int
  r6 : Int
  r7 : Int
  pc : Int
def Cr.cells (c : Cr) : List Value := [.int .u32 c.r0, .int .u32 c.r1, .int .u32 c.r2, .int .u32 c.r3, .int .u32 c.r4, .int .u32 c.r5, .int .u32 c.r6, .int .u32 c.r7, .int .i64 c.pc]
def Cr.zero : Cr := ⟨0, 0, 0, 0, 0, 0, 0, 0, 0⟩
theorem Cr.cells_length (c : Cr) : c.cells.length = 9 := rfl
def coresRow (cs : List Cr) : Array Value := (cs.flatMap Cr.cells).toArray
theorem coresRow_at (cs : List Cr) (i j : Nat) (hj : j < 9) : (coresRow cs)[i * 9 + j]? = (cs[i]?).bind (fun x => x.cells[j]?) := by
  unfold coresRow
  rw [List.getElem?_toArray, flat_at Cr.cells 9 Cr.cells_length cs i j hj]
theorem coresRow_set (cs : List Cr) (i j : Nat) (v : Value) (y : Cr) (hj : j < 9) (hi : i < cs.length) (h : y.cells = (cs[i].cells).set j v) : (coresRow cs).setIfInBounds (i * 9 + j) v = coresRow (cs.set i y) := by
  unfold coresRow
  rw [List.setIfInBounds_toArray, flat_set Cr.cells 9 Cr.cells_length cs i j v y hj hi h]
theorem made_flat {α : Type} (f : α → List Value) (k : Nat) (hk : ∀ x, (f x).length = k) (h0 : 0 < k) (z : α) (zc : Array Value) (hz : zc.toList = f z) (n : Nat) : madeCells zc (n * k) = ((List.replicate n z).flatMap f).toArray := by
  have hs : zc.size = k := by rw [← hk z, ← hz]; simp
  apply Array.ext
  · unfold madeCells
    simp [flat_length f k hk]
  · intro x h1 h2
    have hx : x < n * k := by simpa [madeCells] using h1
    have hq : x / k < n := Nat.div_lt_of_lt_mul (by rw [Nat.mul_comm]; exact hx)
    have hr : x % k < k := Nat.mod_lt _ h0
    have e : x / k * k + x % k = x := by rw [Nat.mul_comm]; exact Nat.div_add_mod x k
    have g := flat_at f k hk (List.replicate n z) (x / k) (x % k) hr
    rw [e] at g
    have g2 : ((List.replicate n z).flatMap f)[x]? = (f z)[x % k]? := by rw [g]; simp [hq]
    have h3 : x % k < zc.size := by omega
    have h4 : (madeCells zc (n * k))[x]? = some zc[x % k] := by
      unfold madeCells
      simp [hx, hs, h3]
      exact getElem!_pos zc (x % k) h3
    have h5 : (f z)[x % k]? = some zc[x % k] := by rw [← hz]; simp [h3]
    have h6 : ((List.replicate n z).flatMap f).toArray[x]? = (madeCells zc (n * k))[x]? := by
      rw [List.getElem?_toArray, g2, h5, h4]
    rw [Array.getElem?_eq_getElem h1, Array.getElem?_eq_getElem h2] at h6
    exact (Option.some.inj h6).symm
theorem made_cores (n : Nat) : madeCells (Value.agg #[.int .u32 0, .int .u32 0, .int .u32 0, .int .u32 0, .int .u32 0, .int .u32 0, .int .u32 0, .int .u32 0, .int .i64 0]).cells (n * 9) = coresRow (List.replicate n Cr.zero) :=
  made_flat Cr.cells 9 Cr.cells_length (by decide) Cr.zero _ rfl n
end Go.Proofs.YtjopodnlffaogaaGreatDoor.Tp
end
