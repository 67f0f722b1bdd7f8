/- A part of the proof of TopConfig: TpRSpecAnderson. -/
import Derived.Test.YtjopodnlffaogaaGreatDoorQL3
section
namespace Go.Proofs.YtjopodnlffaogaaGreatDoor.Tp
open Go.RowKit Go.Proofs.YtjopodnlffaogaaGreatDoorW.PrintWords Go.Proofs.YtjopodnlffaogaaGreatDoorW.PrintLast Go.Proofs.YtjopodnlffaogaaGreatDoorW.PrintMore
attribute [local go_sem] max2_int min2_int max_two min_two max_three min_three max_four min_four
set_option linter.unusedVariables false
set_option linter.unusedSimpArgs false
set_option maxHeartbeats 4000000 in
set_option maxRecDepth 100000 in
theorem randersonSpec_calls {txt : ByteArray} (l : List Ins) (lo un : Int) (ha : RAsmOk txt l lo un) (n t s : Nat) (ht : ∀ W : World, Calls Tryz.prog 55 #[.int .i64 (t : Int)] W fun e w' => e = .returned (.string txt) ∧ Below W.heap.size W w') (w : World) (n1 : 1 ≤ n) (n64 : n ≤ 64) (ht64 : t ≤ 64) (hnt : n ≤ t) (hs : s < 4294967296) (hc : (((t : Int) != 1) = false) ∨ (((t : Int) != 1) = true ∧ ((t : Int) != 2) = false) ∨ (((t : Int) != 1) = true ∧ ((t : Int) != 2) = true ∧ ((t : Int) != 4) = false) ∨ (((t : Int) != 1) = true ∧ ((t : Int) != 2) = true ∧ ((t : Int) != 4) = true ∧ ((t : Int) != 8) = false) ∨ (((t : Int) != 1) = true ∧ ((t : Int) != 2) = true ∧ ((t : Int) != 4) = true ∧ ((t : Int) != 8) = true ∧ ((t : Int) != 16) = false) ∨ (((t : Int) != 1) = true ∧ ((t : Int) != 2) = true ∧ ((t : Int) != 4) = true ∧ ((t : Int) != 8) = true ∧ ((t : Int) != 16) = true ∧ ((t : Int) != 32) = false) ∨ (((t : Int) != 1) = true ∧ ((t : Int) != 2) = true ∧ ((t : Int) != 4) = true ∧ ((t : Int) != 8) = true ∧ ((t : Int) != 16) = true ∧ ((t : Int) != 32) = true ∧ ((t : Int) != 64) = false)) :
    Calls Tryz.prog 26 #[.int .i64 (n : Int), .int .i64 (t : Int), .int .u32 (s : Int)] w fun e w' => ∃ v, e = .returned (.tuple #[v, .bool true]) ∧ Below w.heap.size w w' ∧ SpecIs w.heap.size w' v l lo un [1, (t : Int)] (((List.replicate (t + 1) 0).set 0 (s : Int)).set (1 + s % t) 1) 0 (List.replicate n 0) := by
  have HA := Aside0.mk ha
  have e0 : decide ((n : Int) < 1) = false := decide_eq_false (by omega)
  have e1 : decide (64 < (n : Int)) = false := decide_eq_false (by omega)
  have HT := Aside0.mk ht
  have hr : s % t < t := Nat.mod_lt _ (by omega)
  obtain ⟨r, hr0⟩ : ∃ r, r = s % t := ⟨_, rfl⟩
  have hrem : Int.tmod (s : Int) (t : Int) = (r : Int) := by rw [hr0]; exact IntWalk.up_tmod rfl rfl
  rw [← hr0] at hr ⊢
  clear hr0 ht
  obtain ⟨k, hk⟩ : ∃ k, k = t + 1 := ⟨_, rfl⟩
  obtain ⟨q, hq⟩ : ∃ q, q = 1 + r := ⟨_, rfl⟩
  rw [← hk, ← hq]
  have e4 : ¬ t < n := by omega
  have e2 : decide ((t : Int) < (n : Int)) = false := decide_eq_false (by omega)
  have hw1 : IntKind.i64.wrap ((t : Int) + 1) = (k : Int) := wrap_nat _ k (by omega) (by omega)
  have hw4 : IntKind.i64.wrap (1 + (r : Int)) = (q : Int) := wrap_nat _ q (by omega) (by omega)
  have hw5 : IntKind.i64.wrap (s : Int) = (s : Int) := wrap_nat _ s rfl (by omega)
  have hw6 : IntKind.i64.wrap (r : Int) = (r : Int) := wrap_nat _ r rfl (by omega)
  have hz0 : ¬ (t : Int) = 0 := by omega
  have hz3 : ¬ t = 0 := by omega
  have MI := Aside0.mk (fun W : World => run_make1 (P := Tryz.prog) 33 22 (.int .u32 0) 4 Tryz.underlying33 (by kernel_rfl) rfl (by decide) k (by omega) W)
  have MR := Aside0.mk (fun W : World => run_make1 (P := Tryz.prog) 33 22 (.int .u32 0) 4 Tryz.underlying33 (by kernel_rfl) rfl (by decide) n (by omega) W)
  have WD := wideF
  clear ha
  have HK := Aside0.mk (⟨hk, hq, hr, ht64, hnt⟩ : k = t + 1 ∧ q = 1 + r ∧ r < t ∧ t ≤ 64 ∧ n ≤ t)
  clear n1 hk hq hr ht64 hnt hs
  rcases hc with c0 | ⟨c0, c1⟩ | ⟨c0, c1, c2⟩ | ⟨c0, c1, c2, c3⟩ | ⟨c0, c1, c2, c3, c4⟩ | ⟨c0, c1, c2, c3, c4, c5⟩ | ⟨c0, c1, c2, c3, c4, c5, c6⟩
  all_goals
    go_enter Tryz.func26, Tryz.ntmps26
    go_wp2_with fail
    have HJ := Aside0.mk (show DJ w (.cells zero114 35) (w.alloc (.cells zero114 35)).drew from ⟨below_drew (below_alloc (Below.refl w.heap.size w) _), blk_new w _⟩)

    obtain ⟨ds, hds⟩ : ∃ ds : List Des, ds = [(fun _ => .int .i64 (t : Int), []), (fun gs => .slice (some ⟨(gs.getD 0 0), 0, none⟩) 2 2, [.cells #[.int .i64 1, .int .i64 (t : Int)] 3 (0, 0)]), (fun _ => .int .i64 (t : Int), []), (fun _ => .int .i64 (k : Int), []), (fun gs => .slice (some ⟨(gs.getD 0 0), 0, none⟩) k k, [.cells (zeros k (.int .u32 0)) 22 (0, 0)]), (fun _ => .int .i64 (n : Int), []), (fun gs => .slice (some ⟨(gs.getD 0 0), 0, none⟩) n n, [.cells (zeros n (.int .u32 0)) 22 (0, 0)]), (fun gs => .agg #[.slice none 0 0, .int .i64 0, .int .i64 0, .slice (some ⟨(gs.getD 0 0), 0, none⟩) 2 2, .slice (some ⟨(gs.getD 1 0), 0, none⟩) k k, .int .i64 0, .slice (some ⟨(gs.getD 2 0), 0, none⟩) n n], [.cells #[.int .i64 1, .int .i64 (t : Int)] 3 (0, 0), .cells (zeros k (.int .u32 0)) 22 (0, 0), .cells (zeros n (.int .u32 0)) 22 (0, 0)]), (fun gs => .pointer (some ⟨(gs.getD 0 0), 0, none⟩), [.cells zero114 35 (0, 0)])] := ⟨_, rfl⟩
    refine region_made (w := w) (by kernel_rfl) (k := 9) rfl (.cells zero114 35 (0, 0)) ds (by kernel_rfl) (by kernel_rfl) rfl rfl HJ.out ?ob ?cont
    case ob =>
      refine obL_gen (fun QQ => ?_)
      rename_i aa1
      clear aa1 HA HJ e0 e1 HK WD e2 e4 HT
      refine obL_cons ?_ ?_
      · refine ob_val rfl (by rw [hds]; rfl) (fun a' w' hs => ?_)
        have e1 := hs.own 1 (by kernel_rfl) (v := .int .i64 (t : Int)) rfl
        clear hs hds
        go_simp
      refine obL_cons ?_ ?_
      · refine ob_make rfl (by rw [hds]; rfl) (fun a' w' hs => ?_)
        have e52 := hs.val 0 52 (by kernel_rfl) (by kernel_rfl) (v := .int .i64 (t : Int)) (by rw [hds]; rfl)
        clear hs hds
        go_simp
      refine obL_cons ?_ ?_
      · refine ob_val rfl (by rw [hds]; rfl) (fun a' w' hs => ?_)
        have e1 := hs.own 1 (by kernel_rfl) (v := .int .i64 (t : Int)) rfl
        clear hs hds
        go_simp
      refine obL_cons ?_ ?_
      · refine ob_val rfl (by rw [hds]; rfl) (fun a' w' hs => ?_)
        have e54 := hs.val 2 54 (by kernel_rfl) (by kernel_rfl) (v := .int .i64 (t : Int)) (by rw [hds]; rfl)
        clear hs hds
        go_simp
      refine obL_cons ?_ ?_
      · refine ob_make rfl (by rw [hds]; rfl) (fun a' w' hs => ?_)
        have e55 := hs.val 3 55 (by kernel_rfl) (by kernel_rfl) (v := .int .i64 (k : Int)) (by rw [hds]; rfl)
        clear hs hds
        have hmk := MI.out w'; go_simp
      refine obL_cons ?_ ?_
      · refine ob_val rfl (by rw [hds]; rfl) (fun a' w' hs => ?_)
        have e0 := hs.own 0 (by kernel_rfl) (v := .int .i64 (n : Int)) rfl
        clear hs hds
        go_simp
      refine obL_cons ?_ ?_
      · refine ob_make rfl (by rw [hds]; rfl) (fun a' w' hs => ?_)
        have e57 := hs.val 5 57 (by kernel_rfl) (by kernel_rfl) (v := .int .i64 (n : Int)) (by rw [hds]; rfl)
        clear hs hds
        have hmk := MR.out w'; go_simp
      refine obL_cons ?_ ?_
      · refine ob_mix rfl (by rw [hds]; rfl) (fun a' w' hs => ?_)
        obtain ⟨g53, e53, b53⟩ := hs.des 1 53 (by kernel_rfl) (by kernel_rfl) (by rw [hds]; rfl)
        obtain ⟨g56, e56, b56⟩ := hs.des 4 56 (by kernel_rfl) (by kernel_rfl) (by rw [hds]; rfl)
        obtain ⟨g58, e58, b58⟩ := hs.des 6 58 (by kernel_rfl) (by kernel_rfl) (by rw [hds]; rfl)
        clear hs hds
        obtain ⟨c53, rfl, h53, l53⟩ := b53.one
        obtain ⟨c56, rfl, h56, l56⟩ := b56.one
        obtain ⟨c58, rfl, h58, l58⟩ := b58.one
        refine ⟨[c53, c56, c58], ?_, Blks.mk3 h53 l53 h56 l56 h58 l58⟩
        dsimp only [List.getD_cons_zero, List.getD_cons_succ] at *
        go_simp
      refine obL_cons ?_ obL_nil
      · refine ob_make rfl (by rw [hds]; rfl) (fun a' w' hs => ?_)
        clear hs hds
        kernel_rfl
    case cont =>
      intro vs wf hJ hv
      generalize hA : putV _ _ 0 vs = A
      have q0 := hv.val 0 (.int .i64 (t : Int)) (by decide) (by rw [hds]; rfl)
      obtain ⟨x1, q1, F1, G1⟩ := hv.one 1 (fun gs => .slice (some ⟨(gs.getD 0 0), 0, none⟩) 2 2) (.cells #[.int .i64 1, .int .i64 (t : Int)] 3 (0, 0)) (by decide) (by rw [hds]; rfl)
      have q2 := hv.val 2 (.int .i64 (t : Int)) (by decide) (by rw [hds]; rfl)
      have q3 := hv.val 3 (.int .i64 (k : Int)) (by decide) (by rw [hds]; rfl)
      obtain ⟨x4, q4, F4, G4⟩ := hv.one 4 (fun gs => .slice (some ⟨(gs.getD 0 0), 0, none⟩) k k) (.cells (zeros k (.int .u32 0)) 22 (0, 0)) (by decide) (by rw [hds]; rfl)
      have q5 := hv.val 5 (.int .i64 (n : Int)) (by decide) (by rw [hds]; rfl)
      obtain ⟨x6, q6, F6, G6⟩ := hv.one 6 (fun gs => .slice (some ⟨(gs.getD 0 0), 0, none⟩) n n) (.cells (zeros n (.int .u32 0)) 22 (0, 0)) (by decide) (by rw [hds]; rfl)
      obtain ⟨g_s, g_i, g_r, q7, ⟨F_s, G_s⟩, ⟨F_i, G_i⟩, F_r, G_r⟩ := hv.three 7 (fun gs => .agg #[.slice none 0 0, .int .i64 0, .int .i64 0, .slice (some ⟨(gs.getD 0 0), 0, none⟩) 2 2, .slice (some ⟨(gs.getD 1 0), 0, none⟩) k k, .int .i64 0, .slice (some ⟨(gs.getD 2 0), 0, none⟩) n n]) (.cells #[.int .i64 1, .int .i64 (t : Int)] 3 (0, 0)) (.cells (zeros k (.int .u32 0)) 22 (0, 0)) (.cells (zeros n (.int .u32 0)) 22 (0, 0)) (by decide) (by rw [hds]; rfl)
      obtain ⟨g_x, q8, F8, G8⟩ := hv.one 8 (fun gs => .pointer (some ⟨(gs.getD 0 0), 0, none⟩)) (.cells zero114 35 (0, 0)) (by decide) (by rw [hds]; rfl)
      clear hv hds
      simp only [List.toList_toArray, List.take_succ_cons, List.take_zero, putV, Act.put, List.setIfInBounds_toArray, List.set_cons_zero, List.set_cons_succ, Nat.reduceAdd, List.getD_cons_zero, List.getD_cons_succ, q0, q1, q2, q3, q4, q5, q6, q7, q8] at hA
      subst hA
      clear q0 q1 q2 q3 q4 q5 q6 q7 q8 F1 G1 F4 G4 F6 G6
      refine wp_store_row 35 (.tmp 8) (.tmp 59) rfl g_x #[.slice none 0 0, .int .i64 0, .int .i64 0, .slice (some ⟨g_s, 0, none⟩) 2 2, .slice (some ⟨g_i, 0, none⟩) k k, .int .i64 0, .slice (some ⟨g_r, 0, none⟩) n n] rfl rfl 35 _ F8 (by kernel_rfl) rfl (by kernel_rfl) ?_
      have ne0 : w.heap.size ≠ g_x := Nat.ne_of_lt G8
      have ne_s : g_s ≠ g_x := blk_ne F_s F8 (by decide)
      have n_s := Aside0.mk ((setRow_other wf g_x _ #[.slice none 0 0, .int .i64 0, .int .i64 0, .slice (some ⟨g_s, 0, none⟩) 2 2, .slice (some ⟨g_i, 0, none⟩) k k, .int .i64 0, .slice (some ⟨g_r, 0, none⟩) n n] ne_s).trans F_s)
      have ne_i : g_i ≠ g_x := blk_ne F_i F8 (by decide)
      have n_i := Aside0.mk ((setRow_other wf g_x _ #[.slice none 0 0, .int .i64 0, .int .i64 0, .slice (some ⟨g_s, 0, none⟩) 2 2, .slice (some ⟨g_i, 0, none⟩) k k, .int .i64 0, .slice (some ⟨g_r, 0, none⟩) n n] ne_i).trans F_i)
      have ne_r : g_r ≠ g_x := blk_ne F_r F8 (by decide)
      have n_r := Aside0.mk ((setRow_other wf g_x _ #[.slice none 0 0, .int .i64 0, .int .i64 0, .slice (some ⟨g_s, 0, none⟩) 2 2, .slice (some ⟨g_i, 0, none⟩) k k, .int .i64 0, .slice (some ⟨g_r, 0, none⟩) n n] ne_r).trans F_r)
      have n_B0 := Aside0.mk (show (wf.setRow g_x #[.slice none 0 0, .int .i64 0, .int .i64 0, .slice (some ⟨g_s, 0, none⟩) 2 2, .slice (some ⟨g_i, 0, none⟩) k k, .int .i64 0, .slice (some ⟨g_r, 0, none⟩) n n]).heap[w.heap.size]? = some (.cells #[.slice none 0 0, .int .i64 0, .int .i64 0, .slice none 0 0, .slice none 0 0, .int .i64 0, .slice none 0 0] 35 (0, 0)) from (setRow_other wf g_x _ #[.slice none 0 0, .int .i64 0, .int .i64 0, .slice (some ⟨g_s, 0, none⟩) 2 2, .slice (some ⟨g_i, 0, none⟩) k k, .int .i64 0, .slice (some ⟨g_r, 0, none⟩) n n] ne0).trans hJ.at_)
      have n_x := Aside0.mk (setRow_heap wf g_x _ #[.slice none 0 0, .int .i64 0, .int .i64 0, .slice (some ⟨g_s, 0, none⟩) 2 2, .slice (some ⟨g_i, 0, none⟩) k k, .int .i64 0, .slice (some ⟨g_r, 0, none⟩) n n] 35 (0, 0) F8)
      have n_HB := Aside0.mk (below_setRow hJ.below (Nat.le_of_lt G8) #[.slice none 0 0, .int .i64 0, .int .i64 0, .slice (some ⟨g_s, 0, none⟩) 2 2, .slice (some ⟨g_i, 0, none⟩) k k, .int .i64 0, .slice (some ⟨g_r, 0, none⟩) n n])
      have L_s := Aside0.mk G_s
      have L_i := Aside0.mk G_i
      have L_r := Aside0.mk G_r
      have L_x := Aside0.mk G8
      clear ne_s ne_i ne_r F_s F_i F_r F8 hJ G_s G_i G_r G8
      generalize wf.setRow g_x #[.slice none 0 0, .int .i64 0, .int .i64 0, .slice (some ⟨g_s, 0, none⟩) 2 2, .slice (some ⟨g_i, 0, none⟩) k k, .int .i64 0, .slice (some ⟨g_r, 0, none⟩) n n] = wg at n_B0 n_x n_s n_i n_r n_HB ⊢
      change Exit.then _ _ _ _ _
      have x4 := (blk_cell n_x.out 4).trans rfl
      have zk : ∀ j : Nat, j < k → (zeros k (.int .u32 0))[j]? = some (.int .u32 0) := fun j hj => by simp [zeros, hj]
      have i0 := (blk_cell n_i.out 0).trans (zk 0 (by have := HK.out; omega))
      have iq := (blk_cell n_i.out q).trans (zk q (by have := HK.out; omega))
      have f0 := blk_frozen n_i.out 0
      have fq := blk_frozen n_i.out q
      have hb2 : 0 < k := by have := HK.out; omega
      have hb3 : q < k := by have := HK.out; omega
      have hb4 : (q : Int) < (k : Int) := by omega
      have hb5 : (0 : Int) < (k : Int) := by omega
      have hb0 : decide ((0 : Int) < (k : Int)) = true := decide_eq_true hb5
      have hb1 : decide ((q : Int) < (k : Int)) = true := decide_eq_true hb4
      have hz1 : ¬ 0 = q := by have := HK.out; omega
      have hz2 : ¬ q = 0 := by have := HK.out; omega
      have hgx : ¬ g_i = g_x := fun e => blk_ne n_i.out n_x.out (by decide) e
      have hgx2 : ¬ g_x = g_i := fun e => hgx e.symm
      have NIR := Aside0.mk (show ¬ g_r = g_i from fun e => by
        have h1 := n_r.out
        rw [e, n_i.out] at h1
        have h3 := congrArg (fun o => match o with | some (Obj.cells c _ _) => c.size | _ => 0) h1
        simp [zeros] at h3
        have h4 := HK.out
        omega)
      go_wp2_with fail
      go_region
      have M1 : Mod (fun y => y = g_i) wg (((wg.setCell ⟨g_i, 0, none⟩ (.int .u32 (s : Int))).setCell ⟨g_i, q, none⟩ (.int .u32 1)).drew) := (Mod.setCell (S := fun y => y = g_i) (Mod.setCell (S := fun y => y = g_i) (Mod.refl _ wg) (p := ⟨g_i, 0, none⟩) rfl _) (p := ⟨g_i, q, none⟩) rfl _).drew
      have o_i := Aside0.mk (show (((wg.setCell ⟨g_i, 0, none⟩ (.int .u32 (s : Int))).setCell ⟨g_i, q, none⟩ (.int .u32 1)).drew).heap[g_i]? = some (.cells ((((List.replicate k 0).set 0 (s : Int)).set q 1).map (Value.int .u32)).toArray 22 (0, 0)) from (blk_set (blk_set n_i.out 0 _) q _).trans (by rw [zeros_row, row_set, row_set]))
      clear x4 zk i0 iq f0 fq hb0 hb1 hb2 hb3 hb4 hb5 hz1 hz2 hgx hgx2
      have T1 : ∀ q, q = g_i → ∃ c t, wg.heap[q]? = some (.cells c t (0, 0)) ∧ t = 22 := fun q hq => ⟨_, _, hq ▸ n_i.out, rfl⟩
      have o_B0 := Aside0.mk (M1.blkT n_B0.out (fun q hq => by obtain ⟨c, t, h1, rfl⟩ := T1 q hq; exact ⟨c, _, h1, by decide⟩))
      have o_x := Aside0.mk (M1.blkT n_x.out (fun q hq => by obtain ⟨c, t, h1, rfl⟩ := T1 q hq; exact ⟨c, _, h1, by decide⟩))
      have o_s := Aside0.mk (M1.blkT n_s.out (fun q hq => by obtain ⟨c, t, h1, rfl⟩ := T1 q hq; exact ⟨c, _, h1, by decide⟩))
      have o_r := Aside0.mk (M1.blk n_r.out NIR.out)
      have o_HB := Aside0.mk (below_mod n_HB.out (Nat.le_refl _) M1 (fun q hq => hq ▸ Nat.le_of_lt L_i.out))
      clear M1 T1 n_B0 n_x n_s n_r n_i n_HB NIR
      have n_B0 := o_B0
      have n_x := o_x
      have n_s := o_s
      have n_r := o_r
      have n_i := o_i
      have n_HB := o_HB
      clear o_B0 o_x o_s o_r o_i o_HB
      generalize ((wg.setCell ⟨g_i, 0, none⟩ (.int .u32 (s : Int))).setCell ⟨g_i, q, none⟩ (.int .u32 1)).drew = wh at n_B0 n_x n_s n_i n_r n_HB ⊢

      go_wp2_with (first | (go_at_call 55; refine (HT.out _).mono ?_; rintro e w5 ⟨rfl, hb5⟩; have o_B0 := Aside0.mk (blk_below n_B0.out hb5); have o_x := Aside0.mk (blk_below n_x.out hb5); have o_s := Aside0.mk (blk_below n_s.out hb5); have o_i := Aside0.mk (blk_below n_i.out hb5); have o_r := Aside0.mk (blk_below n_r.out hb5); have o_HB := Aside0.mk (below_step n_HB.out hb5); clear hb5 n_B0 n_x n_s n_i n_r n_HB HT; have n_B0 := o_B0; have n_x := o_x; have n_s := o_s; have n_i := o_i; have n_r := o_r; have n_HB := o_HB; clear o_B0 o_x o_s o_i o_r o_HB) | (go_at_call 53; refine (HA.out _).mono ?_; rintro e w6 ⟨A, c, rfl, hR, hb⟩; have HV := Aside0.mk (Kd.R_alloc (Kd.R_lower hR n_HB.out.size) (.cells #[.slice A l.length c, .int .i64 lo, .int .i64 un] 31)); have m0 := Aside0.mk (blk_below n_B0.out hb); have m_x := Aside0.mk (blk_below n_x.out hb); have k0 := Aside0.mk (blk_alloc m0.out (.cells #[.slice A l.length c, .int .i64 lo, .int .i64 un] 31)); have k_x := Aside0.mk (blk_alloc m_x.out (.cells #[.slice A l.length c, .int .i64 lo, .int .i64 un] 31)); have k_s := Aside0.mk (blk_alloc (blk_below n_s.out hb) (.cells #[.slice A l.length c, .int .i64 lo, .int .i64 un] 31)); have k_i := Aside0.mk (blk_alloc (blk_below n_i.out hb) (.cells #[.slice A l.length c, .int .i64 lo, .int .i64 un] 31)); have k_r := Aside0.mk (blk_alloc (blk_below n_r.out hb) (.cells #[.slice A l.length c, .int .i64 lo, .int .i64 un] 31)); have k_HB := Aside0.mk (below_alloc (below_step n_HB.out hb) (.cells #[.slice A l.length c, .int .i64 lo, .int .i64 un] 31)); clear hb hR n_B0 n_x n_s n_i n_r n_HB HA; obtain ⟨d0, f0, d1, f1, d2, f2, d3, f3, d4, f4, d5, f5, d6, f6⟩ := both7 k_x.out; obtain ⟨p0, u0, p1, u1, p2, u2, p3, u3, p4, u4, p5, u5, p6, u6⟩ := both7 k0.out; have ne0 : w.heap.size ≠ g_x := Nat.ne_of_lt L_x.out; have ne1 : g_x ≠ w.heap.size := fun e => ne0 e.symm; have ne2 : g_x ≠ w6.heap.size := Nat.ne_of_lt (blk_lt m_x.out); have ne3 : w6.heap.size ≠ g_x := fun e => ne2 e.symm; have ne4 : w.heap.size ≠ w6.heap.size := Nat.ne_of_lt (blk_lt m0.out); have ne5 : w6.heap.size ≠ w.heap.size := fun e => ne4 e.symm))
      clear d0 f0 p0 u0 d1 f1 p1 u1 d2 f2 p2 u2 d3 f3 p3 u3 d4 f4 p4 u4 d5 f5 p5 u5 d6 f6 p6 u6
      obtain ⟨WF, hWF, h1, h2, h3⟩ := rspec_end (szs := [1, (t : Int)]) (xs := ((List.replicate k 0).set 0 (s : Int)).set q 1) (r7 := List.replicate n 0) (m := 0) (lo := lo) (un := un) k0.out k_x.out L_x.out k_HB.out k_s.out k_i.out (by simpa [zeros] using k_r.out) (Nat.le_of_lt L_s.out) (Nat.le_of_lt L_i.out) (Nat.le_of_lt L_r.out) HV.out (by simp) (by have := HK.out; simp; omega) (by simp; omega)
      simp only [List.length_replicate, List.length_set] at hWF h2 h3
      change bodyPost _ _ _ _ _ (set7 (set3w (w6.alloc (.cells #[.slice A l.length c, .int .i64 lo, .int .i64 un] 31)) g_x _ _ _) w.heap.size _ _ _ _ _ _ _)
      have hWF2 : WF = set7 (set3w (w6.alloc (.cells #[.slice A l.length c, .int .i64 lo, .int .i64 un] 31)) g_x (.slice A l.length c) (.int .i64 lo) (.int .i64 un)) w.heap.size (.slice A l.length c) (.int .i64 lo) (.int .i64 un) (.slice (some ⟨g_s, 0, none⟩) 2 2) (.slice (some ⟨g_i, 0, none⟩) k k) (.int .i64 0) (.slice (some ⟨g_r, 0, none⟩) n n) := hWF
      rw [← hWF2]
      clear hWF hWF2
      obtain ⟨r0, r1, r2, r3, r4, r5, r6⟩ := cells7 h2
      exact bodyPost_ret (v := .tuple #[.agg #[.slice A l.length c, .int .i64 lo, .int .i64 un, .slice (some ⟨g_s, 0, none⟩) 2 2, .slice (some ⟨g_i, 0, none⟩) k k, .int .i64 0, .slice (some ⟨g_r, 0, none⟩) n n], .bool true]) (by simp [results, Tryz.results26, go_sem, *]) rfl ⟨_, rfl, h1, h3⟩
end Go.Proofs.YtjopodnlffaogaaGreatDoor.Tp
end
