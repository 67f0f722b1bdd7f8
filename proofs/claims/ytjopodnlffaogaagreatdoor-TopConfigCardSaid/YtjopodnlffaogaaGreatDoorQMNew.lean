/- A part of the proof of TopConfig: TpMNew. -/
import Derived.Test.YtjopodnlffaogaaGreatDoorQL5
section
namespace Go.Proofs.YtjopodnlffaogaaGreatDoor.Tp
open Go.RowKit Go.Proofs.YtjopodnlffaogaaGreatDoorW.PrintWords Go.Proofs.YtjopodnlffaogaaGreatDoorW.PrintLast Go.Proofs.YtjopodnlffaogaaGreatDoorW.PrintMore
attribute [local go_sem] max2_int min2_int max_two min_two max_three min_three max_four min_four
set_option linter.unusedVariables false
set_option linter.unusedSimpArgs false
theorem LockAt.below {W W' : World} {B be : Nat} {p : Spc} (h : LockAt W B p be) (hb : Below W.heap.size W W') : LockAt W' B p be := by
  obtain ⟨vl, bm, bc, gc, vs, vb, bp, bq, vr, rs, gk, h1, h2, h3, h4⟩ := h
  exact ⟨vl, bm, bc, gc, vs, vb, bp, bq, vr, rs, gk, h1.below hb, blk_below h2 hb, h3, h4⟩
theorem LockAt.lower {W : World} {B B' be : Nat} {p : Spc} (h : LockAt W B p be) (hB : B' ≤ B) : LockAt W B' p be := by
  obtain ⟨vl, bm, bc, gc, vs, vb, bp, bq, vr, rs, gk, h1, h2, h3, h4⟩ := h
  exact ⟨vl, bm, bc, gc, vs, vb, bp, bq, vr, rs, gk, h1.lower hB, h2, h3, h4⟩
theorem WaitsAt.lower {W : World} {B B' bw bp : Nat} {spin : Int} {v vp : Value} {sl : List Sl} {cs : List Nat} (h : WaitsAt W B bw bp spin v vp sl cs) (hB : B' ≤ B) : WaitsAt W B' bw bp spin v vp sl cs :=
  ⟨h.blk, Kd.R_lower h.row hB, h.pblk, Kd.R_lower h.prow hB, ⟨h.chans.nodup, fun c hc => ⟨Nat.le_trans hB (h.chans.at_ c hc).1, (h.chans.at_ c hc).2⟩⟩, h.len⟩
def NoMach (f : FuncId) (args : Array Value) (w : World) : Prop := Calls Tryz.prog f args w fun e w' => e = .returned (.tuple #[.pointer none, .int .i64 5]) ∧ Below w.heap.size w w'
set_option maxHeartbeats 4000000 in
set_option maxRecDepth 100000 in
theorem qnew_bad (kd th sl ea sp st : Int) (hp : ∀ W : World, Refused 50 #[.agg #[.int .i64 kd, .int .i64 th, .int .i64 sl, .int .i64 ea, .int .i64 sp, .int .u32 st]] W) (w : World) : NoMach 23 #[.agg #[.int .i64 kd, .int .i64 th, .int .i64 sl, .int .i64 ea, .int .i64 sp, .int .u32 st]] w := by
  have P := Aside0.mk hp
  have HB0 := Aside0.mk (below_alloc (Below.refl w.heap.size w) (.cells #[.int .i64 kd, .int .i64 th, .int .i64 sl, .int .i64 ea, .int .i64 sp, .int .u32 st] 24))
  clear hp
  unfold Refused at P
  unfold NoMach
  go_enter Tryz.func23, Tryz.ntmps23
  go_wp2_with (go_at_call 50; refine (P.out _).mono ?_; rintro e w3 ⟨rfl, hb⟩; have HB := Aside0.mk (below_step HB0.out hb); clear hb HB0 P)
  go_ret2
  exact ⟨rfl, below_alloc HB.out _⟩
set_option maxHeartbeats 4000000 in
set_option maxRecDepth 100000 in
theorem mnew_bad (kd th sl ea sp st : Int) (hp : ∀ W : World, Refused 50 #[.agg #[.int .i64 kd, .int .i64 th, .int .i64 sl, .int .i64 ea, .int .i64 sp, .int .u32 st]] W) (w : World) : NoMach 7 #[.agg #[.int .i64 kd, .int .i64 th, .int .i64 sl, .int .i64 ea, .int .i64 sp, .int .u32 st]] w := by
  have P := Aside0.mk (qnew_bad kd th sl ea sp st hp)
  have HB0 := Aside0.mk (below_alloc (Below.refl w.heap.size w) (.cells #[.int .i64 kd, .int .i64 th, .int .i64 sl, .int .i64 ea, .int .i64 sp, .int .u32 st] 24))
  clear hp
  unfold NoMach at P ⊢
  go_enter Tryz.func7, Tryz.ntmps7
  go_wp2_with (go_at_call 23; refine (P.out _).mono ?_; rintro e w3 ⟨rfl, hb⟩; have HB := Aside0.mk (below_step HB0.out hb); clear hb HB0 P)
  go_ret2
  exact ⟨rfl, HB.out⟩
structure Thr where
  state : Int
  deadline : Int
  steps : Int
def Thr.cells (t : Thr) : List Value := [.int .i64 t.state, .int .i64 t.deadline, .int .i64 t.steps]
def thrRow (l : List Thr) : Array Value := (l.flatMap Thr.cells).toArray
theorem thrRow_made (n : Nat) : madeCells #[.int .i64 0, .int .i64 0, .int .i64 0] (n * 3) = thrRow (List.replicate n ⟨0, 0, 0⟩) := made_flat Thr.cells 3 (fun _ => rfl) (by decide) ⟨0, 0, 0⟩ _ rfl n
theorem run_threads (n : Nat) (hn : n ≤ 64) (W : World) : (Instr.makeSlice 74 (.int .i64 (n : Int)) (.int .i64 (n : Int))).run Tryz.prog W = .ok (.slice (some ⟨W.heap.size, 0, none⟩) n n) (W.alloc (.cells (thrRow (List.replicate n ⟨0, 0, 0⟩)) 86)) := by
  rw [← thrRow_made]
  exact run_makeK (P := Tryz.prog) 74 86 (Value.agg #[.int .i64 0, .int .i64 0, .int .i64 0]) 3 24 (by kernel_rfl) (by kernel_rfl) (by decide) n (by omega) W
def NewMach (W : World) (B : Nat) (p : Spc) (n : Nat) (spin : Int) (tr : Bool) (bm : Nat) : Prop := ∃ be bw bp v vp cs gl, B ≤ bm ∧ W.heap[bm]? = some (.cells #[.pointer (some ⟨be, 0, none⟩), .pointer (some ⟨bw, 0, none⟩), .bool tr, .slice (some ⟨gl, 0, none⟩) n n, .int .i64 0, .slice none 0 0] 76 (0, 0)) ∧ LockAt W B p be ∧ WaitsAt W B bw bp spin v vp (List.replicate n ⟨0, -1⟩) cs ∧ W.heap[gl]? = some (.cells (thrRow (List.replicate n ⟨0, 0, 0⟩)) 86 (0, 0))
def tryKind (k : Int) : Bool := k == 7 || k == 8
theorem tryKind_f (k : Int) : qlock_Try.f k = some (tryKind k) := by
  unfold qlock_Try.f tryKind
  by_cases h : k = 7
  · subst h; rfl
  · rw [if_neg h]
    have : (k == 7) = false := beq_eq_false_iff_ne.mpr h
    rw [this, Bool.false_or]
set_option maxHeartbeats 4000000 in
set_option maxRecDepth 100000 in
theorem mnew_good (H : AsmAll) {c : Cfg} {p : Spc} (h : SpecOf c p) (s0 : 1 ≤ c.spin) (s1 : c.spin ≤ 1000) (w : World) (hl : LaidM w) : Calls Tryz.prog 7 #[.agg c.cells] w fun e w' => ∃ bm, e = .returned (.tuple #[.pointer (some ⟨bm, 0, none⟩), .int .i64 0]) ∧ Below w.heap.size w w' ∧ NewMach w' w.heap.size p p.r7.length c.spin (tryKind c.kind) bm := by
  have K := Aside0.mk (specOf_ok h)
  have P := Aside0.mk (fun (W : World) (hW : LaidM W) => qnew_good H h s0 s1 W hW)
  have HL := Aside0.mk hl
  have C0 := Aside0.mk (blk_new w (.cells c.cells 24))
  have HB0 := Aside0.mk (below_alloc (Below.refl w.heap.size w) (.cells c.cells 24))
  have S0 := Aside0.mk (⟨s0, s1⟩ : 1 ≤ c.spin ∧ c.spin ≤ 1000)
  clear H h s0 s1 hl
  obtain ⟨kd, th, sl, ea, sp, st⟩ := c
  simp only [Cfg.cells] at P C0 HB0 K S0 ⊢
  obtain rfl := K.out.len
  have MK := Aside0.mk (fun W : World => run_threads p.r7.length K.out.n64 W)
  go_enter Tryz.func7, Tryz.ntmps7
  go_wp2_with ((go_at_call 23; refine (P.out _ (HL.out.below HB0.out)).mono ?_; rintro e w3 ⟨be, rfl, hb, hs⟩; have m0 := Aside0.mk (blk_below C0.out hb); have HB := Aside0.mk (below_step HB0.out hb); have HX := Aside0.mk (hs.lower HB0.out.size); clear hb hs C0 HB0 P HL; have c1 := (blk_cell m0.out 1).trans rfl; have c4 := (blk_cell m0.out 4).trans rfl))

  go_at_call 24
  refine (parkNew_calls p.r7.length sp _ K.out.n1 K.out.n64 S0.out.1 S0.out.2).mono ?_
  rintro e w4 ⟨bw, bp, v, vp, cs, rfl, hb, hs, hbw, hbp⟩
  have m1 := Aside0.mk (blk_below m0.out hb)
  have HB1 := Aside0.mk (below_step HB.out hb)
  have HX1 := Aside0.mk (HX.out.below hb)
  have HW1 := Aside0.mk (hs.lower HB.out.size)
  clear hb hs hbw hbp m0 HB HX
  have d0 := (blk_cell m1.out 0).trans rfl
  have d1 := (blk_cell m1.out 1).trans rfl
  go_wp2_with fail
  clear d0 d1 c1 c4

  refine start_ (n := 12) (S := fun w' => w'.heap[w.heap.size]? = some (.cells #[.int .i64 kd, .int .i64 (p.r7.length : Int), .int .i64 sl, .int .i64 ea, .int .i64 sp, .int .u32 st] 24 (0, 0))) (ds := []) #[false, false, false, false, false, false, false, false, false, false, false, false] (by kernel_rfl) rfl rfl m1.out (fun hHeld => ?_)
  have n_m1 := Aside0.mk ((show (w4.drew).heap[w.heap.size]? = some (.cells #[.int .i64 kd, .int .i64 (p.r7.length : Int), .int .i64 sl, .int .i64 ea, .int .i64 sp, .int .u32 st] 24 (0, 0)) from m1.out))
  have n_HX1 := Aside0.mk (HX1.out.below (below_drew (Below.refl _ _)))
  have n_HW1 := Aside0.mk (HW1.out.below (below_drew (Below.refl _ _)))
  have n_HB1 := Aside0.mk (below_drew HB1.out)
  clear m1 HX1 HW1 HB1
  have m1 := n_m1
  have HX1 := n_HX1
  have HW1 := n_HW1
  have HB1 := n_HB1
  clear n_m1 n_HX1 n_HW1 n_HB1
  generalize w4.drew = w5 at m1 HX1 HW1 HB1 hHeld ⊢
  refine pure_ (i := 0) (N := some 24) (v := ?_) (a' := ?_) #[true, false, false, false, false, false, false, false, false, false, false, false] rfl rfl (by kernel_rfl) (fun _ _ _ h => h) (Or.inl ⟨by rfl, ?_⟩) ?_ ?_
  rotate_left
  · intro w'
    go_simp
    with_reducible rfl
  rotate_left
  · simp only [Act.put, List.setIfInBounds_toArray, List.set_cons_zero, List.set_cons_succ, i64_w, i32_w]
    rfl
  refine pure_ (i := 1) (N := some 25) (v := ?_) (a' := ?_) #[true, true, false, false, false, false, false, false, false, false, false, false] rfl rfl (by kernel_rfl) (fun _ _ _ h => h) (Or.inl ⟨by rfl, ?_⟩) ?_ ?_
  rotate_left
  · intro w'
    go_simp
    with_reducible rfl
  rotate_left
  · simp only [Act.put, List.setIfInBounds_toArray, List.set_cons_zero, List.set_cons_succ, i64_w, i32_w]
    rfl
  refine pure_ (i := 2) (N := some 26) (v := ?_) (a' := ?_) #[true, true, true, false, false, false, false, false, false, false, false, false] rfl rfl (by kernel_rfl) (fun _ _ _ h => h) (Or.inl ⟨by rfl, ?_⟩) ?_ ?_
  rotate_left
  · intro w'
    go_simp
    with_reducible rfl
  rotate_left
  · simp only [Act.put, List.setIfInBounds_toArray, List.set_cons_zero, List.set_cons_succ, i64_w, i32_w]
    rfl
  refine pure_ (i := 5) (N := some 29) (v := ?_) (a' := ?_) #[true, true, true, false, false, true, false, false, false, false, false, false] rfl rfl (by kernel_rfl) (fun _ _ _ h => h) (Or.inl ⟨by rfl, ?_⟩) ?_ ?_
  rotate_left
  · intro w'
    go_simp
    with_reducible rfl
  rotate_left
  · simp only [Act.put, List.setIfInBounds_toArray, List.set_cons_zero, List.set_cons_succ, i64_w, i32_w]
    rfl
  refine take_ (i := 3) (N := some 27) (v := .int .i64 kd) (a' := ?_) #[true, true, true, true, false, true, false, false, false, false, false, false] rfl rfl (by kernel_rfl) (fun _ _ _ h => h) (Or.inl ⟨by rfl, ?_⟩) hHeld ?_ ?_
  · intro w' hS
    have c0 := (blk_cell hS 0).trans rfl
    clear hHeld hS
    go_simp
  rotate_left
  · simp only [Act.put, List.setIfInBounds_toArray, List.set_cons_zero, List.set_cons_succ, i64_w, i32_w]
    rfl
  refine take_ (i := 6) (N := some 30) (v := .int .i64 (p.r7.length : Int)) (a' := ?_) #[true, true, true, true, false, true, true, false, false, false, false, false] rfl rfl (by kernel_rfl) (fun _ _ _ h => h) (Or.inl ⟨by rfl, ?_⟩) hHeld ?_ ?_
  · intro w' hS
    have c1 := (blk_cell hS 1).trans rfl
    clear hHeld hS
    go_simp
  rotate_left
  · simp only [Act.put, List.setIfInBounds_toArray, List.set_cons_zero, List.set_cons_succ, i64_w, i32_w]
    rfl
  refine join_ (σ := Nat) 4 #[true, true, true, true, true, true, true, true, false, false, false, false] (fun z => [(28, .bool (tryKind kd)), (31, .slice (some ⟨z, 0, none⟩) p.r7.length p.r7.length)]) (fun z w' => w'.heap[w.heap.size]? = some (.cells #[.int .i64 kd, .int .i64 (p.r7.length : Int), .int .i64 sl, .int .i64 ea, .int .i64 sp, .int .u32 st] 24 (0, 0)) ∧ w'.heap[z]? = some (.cells (thrRow (List.replicate p.r7.length ⟨0, 0, 0⟩)) 86 (0, 0)) ∧ LockAt w' w.heap.size p be ∧ WaitsAt w' w.heap.size bw bp sp v vp (List.replicate p.r7.length ⟨0, -1⟩) cs ∧ Below w.heap.size w w') ?cont ?orders
  case orders =>
    intro hcont
    refine two_ (i := 4) (j := 7) (Ni := some 28) (Nj := some 31) #[true, true, true, true, true, true, true, false, false, false, false, false] #[true, true, true, true, false, true, true, true, false, false, false, false] rfl rfl rfl rfl (by kernel_rfl) (by decide) (by decide) (fun K hK => ?_) (fun K hK => ?_)
    ·
      refine goes_ Tryz.func16 (by kernel_rfl) rfl #[.int .i64 kd] (by rfl) rfl rfl (by (try simp only [List.map_toArray, List.map_cons, List.map_nil]); first | done | rfl) ?_
      refine (qlock_Try.calls kd (tryKind kd) _ (tryKind_f kd)).mono ?_
      rintro e w9 ⟨rfl, hd⟩
      have hb := hd.below
      clear hd
      refine ⟨_, rfl, ?_⟩
      have n_m1 := Aside0.mk (blk_below m1.out hb)
      have n_HX1 := Aside0.mk (HX1.out.below hb)
      have n_HW1 := Aside0.mk (HW1.out.below hb)
      have n_HB1 := Aside0.mk (below_step HB1.out hb)
      clear m1 HX1 HW1 HB1 hb hHeld
      have m1 := n_m1
      have HX1 := n_HX1
      have HW1 := n_HW1
      have HB1 := n_HB1
      clear n_m1 n_HX1 n_HW1 n_HB1
      refine hK.out _ _ m1.out (fun hHeld => ?_)
      clear hK K
      refine norm_ (a' := ?_) ?_ ?_
      rotate_left
      · show Act.put _ (some 28) _ = _
        simp only [Act.put, List.setIfInBounds_toArray, List.set_cons_zero, List.set_cons_succ, i64_w, i32_w]
        rfl
      refine one_ (i := 7) (N := some 31) #[true, true, true, true, true, true, true, true, false, false, false, false] rfl rfl (by kernel_rfl) (by decide) (fun K hK => ?_)
      refine value_ (v := .slice (some ⟨w9.heap.size, 0, none⟩) p.r7.length p.r7.length) (w1 := w9.alloc (.cells (thrRow (List.replicate p.r7.length ⟨0, 0, 0⟩)) 86)) (by rfl) rfl (by have hmk := MK.out w9; go_simp) ?_
      have BK := Aside0.mk (blk_new w9 (.cells (thrRow (List.replicate p.r7.length ⟨0, 0, 0⟩)) 86))
      have n_m1 := Aside0.mk (blk_alloc m1.out (.cells (thrRow (List.replicate p.r7.length ⟨0, 0, 0⟩)) 86))
      have n_HX1 := Aside0.mk (HX1.out.below (below_alloc (Below.refl _ _) (.cells (thrRow (List.replicate p.r7.length ⟨0, 0, 0⟩)) 86)))
      have n_HW1 := Aside0.mk (HW1.out.below (below_alloc (Below.refl _ _) (.cells (thrRow (List.replicate p.r7.length ⟨0, 0, 0⟩)) 86)))
      have n_HB1 := Aside0.mk (below_alloc HB1.out (.cells (thrRow (List.replicate p.r7.length ⟨0, 0, 0⟩)) 86))
      clear m1 HX1 HW1 HB1 hHeld
      have m1 := n_m1
      have HX1 := n_HX1
      have HW1 := n_HW1
      have HB1 := n_HB1
      clear n_m1 n_HX1 n_HW1 n_HB1
      refine hK.out _ _ m1.out (fun hHeld => ?_)
      clear hK K
      refine norm_ (a' := ?_) ?_ ?_
      rotate_left
      · show Act.put _ (some 31) _ = _
        simp only [Act.put, List.setIfInBounds_toArray, List.set_cons_zero, List.set_cons_succ, i64_w, i32_w]
        rfl
      generalize w9.alloc (.cells (thrRow (List.replicate p.r7.length ⟨0, 0, 0⟩)) 86) = wa at m1 HX1 HW1 HB1 BK hHeld ⊢
      generalize w9.heap.size = gk at BK ⊢
      refine norm_ (a' := _) ?_ (hcont gk _ ⟨m1.out, BK.out, HX1.out, HW1.out, HB1.out⟩)
      simp only [putAll, Act.put, List.setIfInBounds_toArray, List.set_cons_zero, List.set_cons_succ]
      try rfl
    ·
      refine value_ (v := .slice (some ⟨w5.heap.size, 0, none⟩) p.r7.length p.r7.length) (w1 := w5.alloc (.cells (thrRow (List.replicate p.r7.length ⟨0, 0, 0⟩)) 86)) (by rfl) rfl (by have hmk := MK.out w5; go_simp) ?_
      have BK := Aside0.mk (blk_new w5 (.cells (thrRow (List.replicate p.r7.length ⟨0, 0, 0⟩)) 86))
      have n_m1 := Aside0.mk (blk_alloc m1.out (.cells (thrRow (List.replicate p.r7.length ⟨0, 0, 0⟩)) 86))
      have n_HX1 := Aside0.mk (HX1.out.below (below_alloc (Below.refl _ _) (.cells (thrRow (List.replicate p.r7.length ⟨0, 0, 0⟩)) 86)))
      have n_HW1 := Aside0.mk (HW1.out.below (below_alloc (Below.refl _ _) (.cells (thrRow (List.replicate p.r7.length ⟨0, 0, 0⟩)) 86)))
      have n_HB1 := Aside0.mk (below_alloc HB1.out (.cells (thrRow (List.replicate p.r7.length ⟨0, 0, 0⟩)) 86))
      clear m1 HX1 HW1 HB1 hHeld
      have m1 := n_m1
      have HX1 := n_HX1
      have HW1 := n_HW1
      have HB1 := n_HB1
      clear n_m1 n_HX1 n_HW1 n_HB1
      refine hK.out _ _ m1.out (fun hHeld => ?_)
      clear hK K
      refine norm_ (a' := ?_) ?_ ?_
      rotate_left
      · show Act.put _ (some 31) _ = _
        simp only [Act.put, List.setIfInBounds_toArray, List.set_cons_zero, List.set_cons_succ, i64_w, i32_w]
        rfl
      generalize w5.alloc (.cells (thrRow (List.replicate p.r7.length ⟨0, 0, 0⟩)) 86) = wa at m1 HX1 HW1 HB1 BK hHeld ⊢
      generalize w5.heap.size = gk at BK ⊢
      refine one_ (i := 4) (N := some 28) #[true, true, true, true, true, true, true, true, false, false, false, false] rfl rfl (by kernel_rfl) (by decide) (fun K hK => ?_)
      refine goes_ Tryz.func16 (by kernel_rfl) rfl #[.int .i64 kd] (by rfl) rfl rfl (by (try simp only [List.map_toArray, List.map_cons, List.map_nil]); first | done | rfl) ?_
      refine (qlock_Try.calls kd (tryKind kd) _ (tryKind_f kd)).mono ?_
      rintro e w9 ⟨rfl, hd⟩
      have hb := hd.below
      clear hd
      refine ⟨_, rfl, ?_⟩
      have n_m1 := Aside0.mk (blk_below m1.out hb)
      have n_HX1 := Aside0.mk (HX1.out.below hb)
      have n_HW1 := Aside0.mk (HW1.out.below hb)
      have n_HB1 := Aside0.mk (below_step HB1.out hb)
      have n_BK := Aside0.mk (blk_below BK.out hb)
      clear m1 HX1 HW1 HB1 BK hb hHeld
      have m1 := n_m1
      have HX1 := n_HX1
      have HW1 := n_HW1
      have HB1 := n_HB1
      have BK := n_BK
      clear n_m1 n_HX1 n_HW1 n_HB1 n_BK
      refine hK.out _ _ m1.out (fun hHeld => ?_)
      clear hK K
      refine norm_ (a' := ?_) ?_ ?_
      rotate_left
      · show Act.put _ (some 28) _ = _
        simp only [Act.put, List.setIfInBounds_toArray, List.set_cons_zero, List.set_cons_succ, i64_w, i32_w]
        rfl
      refine norm_ (a' := _) ?_ (hcont gk _ ⟨m1.out, BK.out, HX1.out, HW1.out, HB1.out⟩)
      simp only [putAll, Act.put, List.setIfInBounds_toArray, List.set_cons_zero, List.set_cons_succ]
      try rfl
  case cont =>
    clear m1 HX1 HW1 HB1 MK hHeld
    rintro gk wf ⟨h0, h1, h2, h3, h4⟩
    try dsimp only at h0 h1 h2 h3 h4 ⊢
    have m5 := Aside0.mk h0
    have BK := Aside0.mk h1
    have HX5 := Aside0.mk h2
    have HW5 := Aside0.mk h3
    have HB5 := Aside0.mk h4
    clear h0 h1 h2 h3 h4
    refine norm_ (a' := ?_) ?_ ?_
    rotate_left
    · simp only [putAll, Act.put, List.setIfInBounds_toArray, List.set_cons_zero, List.set_cons_succ]
      rfl
    refine pure_ (i := 8) (N := some 32) (v := ?_) (a' := ?_) #[true, true, true, true, true, true, true, true, true, false, false, false] rfl rfl (by kernel_rfl) (fun _ _ _ h => h) (Or.inl ⟨by rfl, ?_⟩) ?_ ?_
    rotate_left
    · intro w'
      go_simp
      with_reducible rfl
    rotate_left
    · simp only [Act.put, List.setIfInBounds_toArray, List.set_cons_zero, List.set_cons_succ, i64_w, i32_w]
      rfl
    refine one_ (i := 9) (N := some 33) #[true, true, true, true, true, true, true, true, true, true, false, false] rfl rfl (by kernel_rfl) (by decide) (fun K hK => ?_)
    refine value_ (v := .pointer (some ⟨wf.heap.size, 0, none⟩)) (w1 := wf.alloc (.cells #[.pointer (some ⟨be, 0, none⟩), .pointer (some ⟨bw, 0, none⟩), .bool (tryKind kd), .slice (some ⟨gk, 0, none⟩) p.r7.length p.r7.length, .int .i64 0, .slice none 0 0] 76)) (by rfl) rfl (by kernel_rfl) ?_
    have BM := Aside0.mk (blk_new wf (.cells #[.pointer (some ⟨be, 0, none⟩), .pointer (some ⟨bw, 0, none⟩), .bool (tryKind kd), .slice (some ⟨gk, 0, none⟩) p.r7.length p.r7.length, .int .i64 0, .slice none 0 0] 76))
    have GM := Aside0.mk HB5.out.size
    have n_m5 := Aside0.mk (blk_alloc m5.out (.cells #[.pointer (some ⟨be, 0, none⟩), .pointer (some ⟨bw, 0, none⟩), .bool (tryKind kd), .slice (some ⟨gk, 0, none⟩) p.r7.length p.r7.length, .int .i64 0, .slice none 0 0] 76))
    have n_BK := Aside0.mk (blk_alloc BK.out (.cells #[.pointer (some ⟨be, 0, none⟩), .pointer (some ⟨bw, 0, none⟩), .bool (tryKind kd), .slice (some ⟨gk, 0, none⟩) p.r7.length p.r7.length, .int .i64 0, .slice none 0 0] 76))
    have n_HX5 := Aside0.mk (HX5.out.below (below_alloc (Below.refl _ _) (.cells #[.pointer (some ⟨be, 0, none⟩), .pointer (some ⟨bw, 0, none⟩), .bool (tryKind kd), .slice (some ⟨gk, 0, none⟩) p.r7.length p.r7.length, .int .i64 0, .slice none 0 0] 76)))
    have n_HW5 := Aside0.mk (HW5.out.below (below_alloc (Below.refl _ _) (.cells #[.pointer (some ⟨be, 0, none⟩), .pointer (some ⟨bw, 0, none⟩), .bool (tryKind kd), .slice (some ⟨gk, 0, none⟩) p.r7.length p.r7.length, .int .i64 0, .slice none 0 0] 76)))
    have n_HB5 := Aside0.mk (below_alloc HB5.out (.cells #[.pointer (some ⟨be, 0, none⟩), .pointer (some ⟨bw, 0, none⟩), .bool (tryKind kd), .slice (some ⟨gk, 0, none⟩) p.r7.length p.r7.length, .int .i64 0, .slice none 0 0] 76))
    clear m5 BK HX5 HW5 HB5
    have m5 := n_m5
    have BK := n_BK
    have HX5 := n_HX5
    have HW5 := n_HW5
    have HB5 := n_HB5
    clear n_m5 n_BK n_HX5 n_HW5 n_HB5
    refine hK.out _ _ m5.out (fun hHeld => ?_)
    clear hK K
    refine norm_ (a' := ?_) ?_ ?_
    rotate_left
    · show Act.put _ (some 33) _ = _
      simp only [Act.put, List.setIfInBounds_toArray, List.set_cons_zero, List.set_cons_succ, i64_w, i32_w]
      rfl
    clear m5
    generalize wf.alloc (.cells #[.pointer (some ⟨be, 0, none⟩), .pointer (some ⟨bw, 0, none⟩), .bool (tryKind kd), .slice (some ⟨gk, 0, none⟩) p.r7.length p.r7.length, .int .i64 0, .slice none 0 0] 76) = wg at BM BK HX5 HW5 HB5 hHeld ⊢
    generalize wf.heap.size = bm at BM GM ⊢
    refine pure_ (i := 10) (N := some 2) (v := ?_) (a' := ?_) #[true, true, true, true, true, true, true, true, true, true, true, false] rfl rfl (by kernel_rfl) (fun _ _ _ h => h) (Or.inl ⟨by rfl, ?_⟩) ?_ ?_
    rotate_left
    · intro w'
      go_simp
      with_reducible rfl
    rotate_left
    · simp only [Act.put, List.setIfInBounds_toArray, List.set_cons_zero, List.set_cons_succ, i64_w, i32_w]
      rfl
    refine pure_ (i := 11) (N := some 3) (v := ?_) (a' := ?_) #[true, true, true, true, true, true, true, true, true, true, true, true] rfl rfl (by kernel_rfl) (fun _ _ _ h => h) (Or.inl ⟨by rfl, ?_⟩) ?_ ?_
    rotate_left
    · intro w'
      go_simp
      with_reducible rfl
    rotate_left
    · simp only [Act.put, List.setIfInBounds_toArray, List.set_cons_zero, List.set_cons_succ, i64_w, i32_w]
      rfl
    refine done_ (by kernel_rfl) ?_
    go_wp2_with fail
    go_ret2
    exact ⟨bm, rfl, HB5.out, be, bw, bp, v, vp, cs, gk, GM.out, BM.out, HX5.out, HW5.out, BK.out⟩
end Go.Proofs.YtjopodnlffaogaaGreatDoor.Tp
end
