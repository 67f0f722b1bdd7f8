/- ropelinelaw08.CoreRuns: its walk. -/
import Derived.Test.YtobjjmdaleoblaaCoAwake
import Derived.Test.YtobjjmdaleoblaaCoRight7
import Derived.Test.YtobjjmdaleoblaaCoToRef
import Derived.Test.YtobjjmdaleoblaaCoEqOp
import Derived.Test.YtobjjmdaleoblaaCoRun
import Derived.Test.YtobjjmdaleoblaaCoRefRun
import Derived.Test.YtobjjmdaleoblaaCoRunPlain
import Derived.Laws.CopyOwn
import Derived.Outline
namespace Go.Proofs.Ytobjjmdaleoblaa.Co
open Go.RowKit Go.Proofs.YtobjjmdaleoblaaW.PrintWords Go.Proofs.YtobjjmdaleoblaaW.PrintLast Go.Proofs.YtobjjmdaleoblaaW.PrintMore Go.Proofs.Ytobjjmdaleoblaa.PCoreRuns
attribute [local go_sem] max2_int min2_int max_two min_two max_three min_three max_four min_four
set_option linter.unusedVariables false
set_option linter.unusedSimpArgs false
theorem R_setRow {w : World} {base : Nat} {ok : Nat → Prop} {v : Value} {xs : List Int} {g : Nat} {cur : Array Value} (h : Kd.R (Kd.int .i64) 3 w base ok v xs) (hg : w.heap[g]? = some (.cells cur 34 (0, 0))) (cs : Array Value) : Kd.R (Kd.int .i64) 3 (w.setRow g cs) base ok v xs :=
  Kd.R_mono (Kd.R_step (Kd.R_bound h) (fun k hk _ => setRow_other w g k cs (by
    rintro rfl
    obtain ⟨_, _, _, q, hq, cells, hc⟩ := hk
    rw [hg] at hc
    cases hc
    have hE : (Kd.int .i64).E = [] := rfl
    rw [hE] at hq
    simp at hq))) (fun k hk => hk.1)
set_option maxHeartbeats 16000000 in
set_option maxRecDepth 100000 in
theorem coreRuns_calls (c : Cr) (A : Option Addr) (cap : Nat) (l : List S27) (lo un self : Int) (w : World) (hc : c.ok) (hl : Kd.C k27 w A l.length l) (hcap : l.length ≤ cap) (hr : ∀ i ∈ l, 0 ≤ i.f6 ∧ i.f6 < 4294967296) (s0 : 0 ≤ self) (s1 : self < 256) :
    Calls Try.prog 4 #[c.val, .agg #[.slice A l.length cap, .int .i64 lo, .int .i64 un], .int .u8 self] w fun e w' => e = .returned (.bool true) ∧ Below w.heap.size w w' := by
  have HR := Aside0.mk hr
  have HOK := Aside0.mk hc
  have HCAP := Aside0.mk hcap
  have HL0 := Aside0.mk hl
  clear hr hc hl hcap
  show Calls Try.prog 4 #[.agg #[.int .u32 c.r0, .int .u32 c.r1, .int .u32 c.r2, .int .u32 c.r3, .int .u32 c.r4, .int .u32 c.r5, .int .u32 c.r6, .int .u32 c.r7, .int .i64 c.pc], .agg #[.slice A l.length cap, .int .i64 lo, .int .i64 un], .int .u8 self] w _
  by_cases hn : l.length ≤ 64
  case neg =>
    have e0 : decide (64 < (l.length : Int)) = true := decide_eq_true (by omega)
    have e1 : decide (64 < l.length) = true := decide_eq_true (by omega)
    go_enter Try.func4, Try.ntmps4
    go_wp2_with fail
    refine (awake_calls _).mono ?_
    rintro e w3 ⟨rfl, hb⟩
    go_wp2
    go_ret
    exact ⟨rfl, below_step (below_alloc (below_alloc (Below.refl w.heap.size w) _) _) hb⟩
  have e0 : decide (64 < (l.length : Int)) = false := decide_eq_false (by omega)
  have e1 : decide (64 < l.length) = false := decide_eq_false (by omega)
  go_enter Try.func4, Try.ntmps4
  go_wp2_with fail
  refine (ref7_calls A cap l lo un _ (Kd.C_alloc (Kd.C_alloc HL0.out _) _) HCAP.out hn).mono ?_
  rintro e w1 ⟨A1, cap1, rfl, hcap1, hC1, hb⟩
  have HC1 := Aside0.mk hC1
  have B0 := Aside0.mk (blk_below (blk_alloc (blk_new w (.cells #[.int .u32 c.r0, .int .u32 c.r1, .int .u32 c.r2, .int .u32 c.r3, .int .u32 c.r4, .int .u32 c.r5, .int .u32 c.r6, .int .u32 c.r7, .int .i64 c.pc] 25)) (.cells #[.slice A l.length cap, .int .i64 lo, .int .i64 un] 41)) hb)
  have B1 := Aside0.mk (blk_below (blocks2 w (.cells #[.int .u32 c.r0, .int .u32 c.r1, .int .u32 c.r2, .int .u32 c.r3, .int .u32 c.r4, .int .u32 c.r5, .int .u32 c.r6, .int .u32 c.r7, .int .i64 c.pc] 25) (.cells #[.slice A l.length cap, .int .i64 lo, .int .i64 un] 41)) hb)
  have HL := Aside0.mk (Kd.C_below (Kd.C_alloc (Kd.C_alloc HL0.out (.cells #[.int .u32 c.r0, .int .u32 c.r1, .int .u32 c.r2, .int .u32 c.r3, .int .u32 c.r4, .int .u32 c.r5, .int .u32 c.r6, .int .u32 c.r7, .int .i64 c.pc] 25)) (.cells #[.slice A l.length cap, .int .i64 lo, .int .i64 un] 41)) hb)
  have HB := Aside0.mk (below_step (below_alloc (below_alloc (Below.refl w.heap.size w) (.cells #[.int .u32 c.r0, .int .u32 c.r1, .int .u32 c.r2, .int .u32 c.r3, .int .u32 c.r4, .int .u32 c.r5, .int .u32 c.r6, .int .u32 c.r7, .int .i64 c.pc] 25)) (.cells #[.slice A l.length cap, .int .i64 lo, .int .i64 un] 41)) hb)
  clear hb hC1 HL0
  go_wp2_with fail
  refine (r7_calls A1 cap1 l lo un _ HC1.out HR.out).mono ?_
  rintro e w2 ⟨b, rfl, hi, hb⟩
  have n_B0 := Aside0.mk (blk_below B0.out hb)
  have n_B1 := Aside0.mk (blk_below B1.out hb)
  have n_HL := Aside0.mk (Kd.C_below HL.out hb)
  have n_HB := Aside0.mk (below_step HB.out hb)
  clear B0 B1 HL HB hb
  have B0 := n_B0
  have B1 := n_B1
  have HL := n_HL
  have HB := n_HB
  clear n_B0 n_B1 n_HL n_HB
  have HN := Aside0.mk hn
  clear HC1 e0 e1 hn
  cases b with
  | false =>
    go_wp2_with fail
    refine (awake_calls _).mono ?_
    rintro e w3 ⟨rfl, hb⟩
    go_wp2
    go_ret
    exact ⟨rfl, below_step HB.out hb⟩
  | true =>
  have HI := Aside0.mk (hi rfl)
  clear hi
  have t0 : 0 ≤ self % 64 := by omega
  have t1 : self % 64 < 64 := by omega
  have c0 := (blk_cell B0.out 0).trans rfl
  have c1 := (blk_cell B0.out 1).trans rfl
  have c2 := (blk_cell B0.out 2).trans rfl
  have c3 := (blk_cell B0.out 3).trans rfl
  have c4 := (blk_cell B0.out 4).trans rfl
  have c5 := (blk_cell B0.out 5).trans rfl
  have c6 := (blk_cell B0.out 6).trans rfl
  have c7 := (blk_cell B0.out 7).trans rfl
  have c8 := (blk_cell B0.out 8).trans rfl
  have d0 := (blk_cell B1.out 0).trans rfl
  have d1 := (blk_cell B1.out 1).trans rfl
  have d2 := (blk_cell B1.out 2).trans rfl
  go_wp2_with fail
  generalize self % 64 = t at t0 t1 ⊢
  obtain ⟨r, hgo⟩ : ∃ r, go l t 256 c [] = r := ⟨_, rfl⟩
  have HX := Aside0.mk (go_ok l t HI.out t0 t1 256 c [] HOK.out)
  have HGO := Aside0.mk hgo
  rw [hgo] at HX
  clear hgo c0 c1 c2 c3 c4 c5 c6 c7 c8 d0 d1 d2
  obtain ⟨x, ms, dn, er⟩ := r
  refine (run_calls c HOK.out t t0 t1 A cap l lo un _ HL.out HCAP.out HN.out HI.out _ HGO.out).mono ?_
  rintro e w3 ⟨v, rfl, hR, hb⟩
  obtain ⟨A3, cap3, rfl, hcap3, hM⟩ := Kd.R_reads hR
  have HM := Aside0.mk hR
  have HK3 := Aside0.mk hcap3
  clear hM hR hcap3
  have n_B0 := Aside0.mk (blk_below B0.out hb)
  have n_B1 := Aside0.mk (blk_below B1.out hb)
  have n_HL := Aside0.mk (Kd.C_below HL.out hb)
  have n_HB := Aside0.mk (below_step HB.out hb)
  clear B0 B1 HL HB hb
  have B0 := n_B0
  have B1 := n_B1
  have HL := n_HL
  have HB := n_HB
  clear n_B0 n_B1 n_HL n_HB
  unfold Cr.val
  dsimp only at HM HK3 HX ⊢
  go_wp2_with fail
  have B8 := Aside0.mk (blk_new w3 (.cells #[.int .u32 x.r0, .int .u32 x.r1, .int .u32 x.r2, .int .u32 x.r3, .int .u32 x.r4, .int .u32 x.r5, .int .u32 x.r6, .int .u32 x.r7, .int .i64 x.pc] 25))
  have n_B0 := Aside0.mk (blk_alloc B0.out (.cells #[.int .u32 x.r0, .int .u32 x.r1, .int .u32 x.r2, .int .u32 x.r3, .int .u32 x.r4, .int .u32 x.r5, .int .u32 x.r6, .int .u32 x.r7, .int .i64 x.pc] 25))
  have n_B1 := Aside0.mk (blk_alloc B1.out (.cells #[.int .u32 x.r0, .int .u32 x.r1, .int .u32 x.r2, .int .u32 x.r3, .int .u32 x.r4, .int .u32 x.r5, .int .u32 x.r6, .int .u32 x.r7, .int .i64 x.pc] 25))
  have n_HL := Aside0.mk (Kd.C_alloc HL.out (.cells #[.int .u32 x.r0, .int .u32 x.r1, .int .u32 x.r2, .int .u32 x.r3, .int .u32 x.r4, .int .u32 x.r5, .int .u32 x.r6, .int .u32 x.r7, .int .i64 x.pc] 25))
  have n_HM := Aside0.mk (Kd.R_alloc HM.out (.cells #[.int .u32 x.r0, .int .u32 x.r1, .int .u32 x.r2, .int .u32 x.r3, .int .u32 x.r4, .int .u32 x.r5, .int .u32 x.r6, .int .u32 x.r7, .int .i64 x.pc] 25))
  have n_HB := Aside0.mk (below_alloc HB.out (.cells #[.int .u32 x.r0, .int .u32 x.r1, .int .u32 x.r2, .int .u32 x.r3, .int .u32 x.r4, .int .u32 x.r5, .int .u32 x.r6, .int .u32 x.r7, .int .i64 x.pc] 25))
  clear B0 B1 HL HM HB
  have B0 := n_B0
  have B1 := n_B1
  have HL := n_HL
  have HM := n_HM
  have HB := n_HB
  clear n_B0 n_B1 n_HL n_HM n_HB
  generalize w3.alloc (.cells #[.int .u32 x.r0, .int .u32 x.r1, .int .u32 x.r2, .int .u32 x.r3, .int .u32 x.r4, .int .u32 x.r5, .int .u32 x.r6, .int .u32 x.r7, .int .i64 x.pc] 25) = w4 at B0 B1 B8 HL HM HB ⊢
  generalize w3.heap.size = g8 at B8 ⊢
  refine start_ (n := 16) (S := fun w' => w'.heap[w.heap.size]? = some (.cells #[.int .u32 c.r0, .int .u32 c.r1, .int .u32 c.r2, .int .u32 c.r3, .int .u32 c.r4, .int .u32 c.r5, .int .u32 c.r6, .int .u32 c.r7, .int .i64 c.pc] 25 (0, 0)) ∧ w'.heap[w.heap.size + 1]? = some (.cells #[.slice A l.length cap, .int .i64 lo, .int .i64 un] 41 (0, 0))) (ds := []) #[false, false, false, false, false, false, false, false, false, false, false, false, false, false, false, false] (by kernel_rfl) rfl rfl ⟨B0.out, B1.out⟩ (fun hHeld => ?_)
  have n_B0 := Aside0.mk ((show (w4.drew).heap[w.heap.size]? = some (.cells #[.int .u32 c.r0, .int .u32 c.r1, .int .u32 c.r2, .int .u32 c.r3, .int .u32 c.r4, .int .u32 c.r5, .int .u32 c.r6, .int .u32 c.r7, .int .i64 c.pc] 25 (0, 0)) from B0.out))
  have n_B1 := Aside0.mk ((show (w4.drew).heap[w.heap.size + 1]? = some (.cells #[.slice A l.length cap, .int .i64 lo, .int .i64 un] 41 (0, 0)) from B1.out))
  have n_B8 := Aside0.mk ((show (w4.drew).heap[g8]? = some (.cells #[.int .u32 x.r0, .int .u32 x.r1, .int .u32 x.r2, .int .u32 x.r3, .int .u32 x.r4, .int .u32 x.r5, .int .u32 x.r6, .int .u32 x.r7, .int .i64 x.pc] 25 (0, 0)) from B8.out))
  have n_HL := Aside0.mk (Kd.C_drew HL.out)
  have n_HM := Aside0.mk (Kd.R_drew HM.out)
  have n_HB := Aside0.mk (below_drew HB.out)
  clear B0 B1 B8 HL HM HB
  have B0 := n_B0
  have B1 := n_B1
  have B8 := n_B8
  have HL := n_HL
  have HM := n_HM
  have HB := n_HB
  clear n_B0 n_B1 n_B8 n_HL n_HM n_HB
  generalize w4.drew = w5 at B0 B1 B8 HL HM HB hHeld ⊢
  refine take_ (i := 0) (N := some 40) (v := .agg #[.int .u32 c.r0, .int .u32 c.r1, .int .u32 c.r2, .int .u32 c.r3, .int .u32 c.r4, .int .u32 c.r5, .int .u32 c.r6, .int .u32 c.r7, .int .i64 c.pc]) (a' := ?_) #[true, false, false, false, false, false, false, false, false, false, false, false, false, false, false, false] rfl rfl (by kernel_rfl) (fun _ _ _ h => h) (Or.inl ⟨by rfl, ?_⟩) hHeld ?_ ?_
  · intro w' hS
    have B := hS.1
    clear hHeld hS
    have c0 := (blk_cell B 0).trans rfl
    have c1 := (blk_cell B 1).trans rfl
    have c2 := (blk_cell B 2).trans rfl
    have c3 := (blk_cell B 3).trans rfl
    have c4 := (blk_cell B 4).trans rfl
    have c5 := (blk_cell B 5).trans rfl
    have c6 := (blk_cell B 6).trans rfl
    have c7 := (blk_cell B 7).trans rfl
    have c8 := (blk_cell B 8).trans rfl
    clear B
    go_simp
  rotate_left
  · simp only [Act.put, List.setIfInBounds_toArray, List.set_cons_zero, List.set_cons_succ, i64_w, i32_w]
    rfl
  refine take_ (i := 2) (N := some 42) (v := .agg #[.slice A l.length cap, .int .i64 lo, .int .i64 un]) (a' := ?_) #[true, false, true, false, false, false, false, false, false, false, false, false, false, false, false, false] rfl rfl (by kernel_rfl) (fun _ _ _ h => h) (Or.inl ⟨by rfl, ?_⟩) hHeld ?_ ?_
  · intro w' hS
    have B := hS.2
    clear hHeld hS
    have c0 := (blk_cell B 0).trans rfl
    have c1 := (blk_cell B 1).trans rfl
    have c2 := (blk_cell B 2).trans rfl
    clear B
    go_simp
  rotate_left
  · simp only [Act.put, List.setIfInBounds_toArray, List.set_cons_zero, List.set_cons_succ, i64_w, i32_w]
    rfl
  refine pure_ (i := 4) (N := some 44) (v := ?_) (a' := ?_) #[true, false, true, false, true, false, false, false, false, false, false, false, false, false, false, false] rfl rfl (by kernel_rfl) (fun _ _ _ h => h) (Or.inl ⟨by rfl, ?_⟩) ?_ ?_
  rotate_left
  · intro w'
    go_simp
    with_reducible rfl
  rotate_left
  · simp only [Act.put, List.setIfInBounds_toArray, List.set_cons_zero, List.set_cons_succ, i64_w, i32_w]
    rfl
  refine join_ (σ := Nat × (Option Addr × Nat) × (Option Addr × Nat)) 4 #[true, true, true, true, true, true, true, true, true, true, true, true, false, false, false, false] (fun z => [(41, c.ref), (43, .agg #[.slice z.2.1.1 l.length z.2.1.2, .int .i64 lo, .int .i64 un]), (45, .tuple #[.agg #[.int .i64 x.r0, .int .i64 x.r1, .int .i64 x.r2, .int .i64 x.r3, .int .i64 x.r4, .int .i64 x.r5, .int .i64 x.r6, .int .i64 x.r7, .int .i64 x.pc], .slice z.2.2.1 ms.length z.2.2.2, .int .i64 dn, .int .i64 er]), (12, .pointer (some ⟨z.1, 0, none⟩)), (39, .tuple #[.agg #[.int .i64 x.r0, .int .i64 x.r1, .int .i64 x.r2, .int .i64 x.r3, .int .i64 x.r4, .int .i64 x.r5, .int .i64 x.r6, .int .i64 x.r7, .int .i64 x.pc], .slice z.2.2.1 ms.length z.2.2.2, .int .i64 dn, .int .i64 er]), (46, .agg #[.int .i64 x.r0, .int .i64 x.r1, .int .i64 x.r2, .int .i64 x.r3, .int .i64 x.r4, .int .i64 x.r5, .int .i64 x.r6, .int .i64 x.r7, .int .i64 x.pc]), (47, .slice z.2.2.1 ms.length z.2.2.2), (48, .int .i64 dn), (49, .int .i64 er)]) (fun z w' => w'.heap[w.heap.size]? = some (.cells #[.int .u32 c.r0, .int .u32 c.r1, .int .u32 c.r2, .int .u32 c.r3, .int .u32 c.r4, .int .u32 c.r5, .int .u32 c.r6, .int .u32 c.r7, .int .i64 c.pc] 25 (0, 0)) ∧ w'.heap[w.heap.size + 1]? = some (.cells #[.slice A l.length cap, .int .i64 lo, .int .i64 un] 41 (0, 0)) ∧ w'.heap[g8]? = some (.cells #[.int .u32 x.r0, .int .u32 x.r1, .int .u32 x.r2, .int .u32 x.r3, .int .u32 x.r4, .int .u32 x.r5, .int .u32 x.r6, .int .u32 x.r7, .int .i64 x.pc] 25 (0, 0)) ∧ w'.heap[z.1]? = some (.cells #[.int .i64 0, .int .i64 0, .int .i64 0, .int .i64 0, .int .i64 0, .int .i64 0, .int .i64 0, .int .i64 0, .int .i64 0] 34 (0, 0)) ∧ w.heap.size ≤ z.1 ∧ (∃ b3, Kd.R (Kd.int .i64) 3 w' b3 (fun _ => True) (.slice A3 ms.length cap3) ms) ∧ (∃ b6, Kd.R (Kd.int .i64) 3 w' b6 (fun _ => True) (.slice z.2.2.1 ms.length z.2.2.2) ms) ∧ ms.length ≤ z.2.2.2 ∧ Below w.heap.size w w') ?cont ?orders
  case orders =>
    intro hcont
    refine two_ (i := 1) (j := 11) (Ni := some 41) (Nj := some 12) #[true, true, true, false, true, false, false, false, false, false, false, false, false, false, false, false] #[true, false, true, false, true, false, false, false, false, false, false, true, false, false, false, false] rfl rfl rfl rfl (by kernel_rfl) (by decide) (by decide) (fun K hK => ?_) (fun K hK => ?_)
    ·
      refine goes_ Try.func11 (by kernel_rfl) rfl #[.agg #[.int .u32 c.r0, .int .u32 c.r1, .int .u32 c.r2, .int .u32 c.r3, .int .u32 c.r4, .int .u32 c.r5, .int .u32 c.r6, .int .u32 c.r7, .int .i64 c.pc]] (by rfl) rfl rfl (by (try simp only [List.map_toArray, List.map_cons, List.map_nil]); first | done | rfl) ?_
      refine (toRef_calls c HOK.out _).mono ?_
      rintro e w9 ⟨rfl, hb⟩
      refine ⟨_, rfl, ?_⟩
      have n_B0 := Aside0.mk (blk_below B0.out hb)
      have n_B1 := Aside0.mk (blk_below B1.out hb)
      have n_B8 := Aside0.mk (blk_below B8.out hb)
      have n_HL := Aside0.mk (Kd.C_below HL.out hb)
      have n_HM := Aside0.mk (Kd.R_step HM.out (fun k _ hk => hb.block k hk))
      have n_HB := Aside0.mk (below_step HB.out hb)
      clear B0 B1 B8 HL HM HB hb hHeld
      have B0 := n_B0
      have B1 := n_B1
      have B8 := n_B8
      have HL := n_HL
      have HM := n_HM
      have HB := n_HB
      clear n_B0 n_B1 n_B8 n_HL n_HM n_HB
      refine hK.out _ _ ⟨B0.out, B1.out⟩ (fun hHeld => ?_)
      clear hK K
      refine norm_ (a' := ?_) ?_ ?_
      rotate_left
      · show Act.put _ (some 41) _ = _
        simp only [Act.put, List.setIfInBounds_toArray, List.set_cons_zero, List.set_cons_succ, i64_w, i32_w]
        rfl
      refine two_ (i := 3) (j := 11) (Ni := some 43) (Nj := some 12) #[true, true, true, true, true, false, false, false, false, false, false, false, false, false, false, false] #[true, true, true, false, true, false, false, false, false, false, false, true, false, false, false, false] rfl rfl rfl rfl (by kernel_rfl) (by decide) (by decide) (fun K hK => ?_) (fun K hK => ?_)
      ·
        refine goes_ Try.func15 (by kernel_rfl) rfl #[.agg #[.slice A l.length cap, .int .i64 lo, .int .i64 un]] (by rfl) rfl rfl (by (try simp only [List.map_toArray, List.map_cons, List.map_nil]); first | done | rfl) ?_
        refine (ref7_calls A cap l lo un _ HL.out HCAP.out HN.out).mono ?_
        rintro e w9 ⟨A5, cap5, rfl, hcap5, hC5, hb⟩
        have HC5 := Aside0.mk hC5
        have HK5 := Aside0.mk hcap5
        clear hC5 hcap5
        refine ⟨_, rfl, ?_⟩
        have n_B0 := Aside0.mk (blk_below B0.out hb)
        have n_B1 := Aside0.mk (blk_below B1.out hb)
        have n_B8 := Aside0.mk (blk_below B8.out hb)
        have n_HL := Aside0.mk (Kd.C_below HL.out hb)
        have n_HM := Aside0.mk (Kd.R_step HM.out (fun k _ hk => hb.block k hk))
        have n_HB := Aside0.mk (below_step HB.out hb)
        clear B0 B1 B8 HL HM HB hb hHeld
        have B0 := n_B0
        have B1 := n_B1
        have B8 := n_B8
        have HL := n_HL
        have HM := n_HM
        have HB := n_HB
        clear n_B0 n_B1 n_B8 n_HL n_HM n_HB
        refine hK.out _ _ ⟨B0.out, B1.out⟩ (fun hHeld => ?_)
        clear hK K
        refine norm_ (a' := ?_) ?_ ?_
        rotate_left
        · show Act.put _ (some 43) _ = _
          simp only [Act.put, List.setIfInBounds_toArray, List.set_cons_zero, List.set_cons_succ, i64_w, i32_w]
          rfl
        refine two_ (i := 5) (j := 11) (Ni := some 45) (Nj := some 12) #[true, true, true, true, true, true, false, false, false, false, false, false, false, false, false, false] #[true, true, true, true, true, false, false, false, false, false, false, true, false, false, false, false] rfl rfl rfl rfl (by kernel_rfl) (by decide) (by decide) (fun K hK => ?_) (fun K hK => ?_)
        ·
          refine goes_ Try.func17 (by kernel_rfl) rfl #[c.ref, .agg #[.slice A5 l.length cap5, .int .i64 lo, .int .i64 un], .int .i64 t] (by rfl) rfl rfl (by (try simp only [List.map_toArray, List.map_cons, List.map_nil]); first | done | rfl) ?_
          refine (refrun_calls c HOK.out t t0 t1 A5 cap5 l lo un _ HC5.out HK5.out HN.out HI.out _ HGO.out).mono ?_
          rintro e w9 ⟨v6, rfl, hR, hb⟩
          obtain ⟨A6, cap6, rfl, hcap6, hM6⟩ := Kd.R_reads hR
          have HM6 := Aside0.mk hR
          have HK6 := Aside0.mk hcap6
          clear hM6 hR hcap6
          unfold Cr.ref
          dsimp only at HM6 HK6 ⊢
          refine ⟨_, rfl, ?_⟩
          have n_B0 := Aside0.mk (blk_below B0.out hb)
          have n_B1 := Aside0.mk (blk_below B1.out hb)
          have n_B8 := Aside0.mk (blk_below B8.out hb)
          have n_HL := Aside0.mk (Kd.C_below HL.out hb)
          have n_HM := Aside0.mk (Kd.R_step HM.out (fun k _ hk => hb.block k hk))
          have n_HB := Aside0.mk (below_step HB.out hb)
          have n_HC5 := Aside0.mk (Kd.C_below HC5.out hb)
          clear B0 B1 B8 HL HM HB HC5 hb hHeld
          have B0 := n_B0
          have B1 := n_B1
          have B8 := n_B8
          have HL := n_HL
          have HM := n_HM
          have HB := n_HB
          have HC5 := n_HC5
          clear n_B0 n_B1 n_B8 n_HL n_HM n_HB n_HC5
          refine hK.out _ _ ⟨B0.out, B1.out⟩ (fun hHeld => ?_)
          clear hK K
          refine norm_ (a' := ?_) ?_ ?_
          rotate_left
          · show Act.put _ (some 45) _ = _
            simp only [Act.put, List.setIfInBounds_toArray, List.set_cons_zero, List.set_cons_succ, i64_w, i32_w]
            rfl
          refine pure_ (i := 6) (N := some 39) (v := ?_) (a' := ?_) #[true, true, true, true, true, true, true, false, false, false, false, false, false, false, false, false] rfl rfl (by kernel_rfl) (fun _ _ _ h => h) (Or.inl ⟨by rfl, ?_⟩) ?_ ?_
          rotate_left
          · intro w'
            go_simp
            with_reducible rfl
          rotate_left
          · simp only [Act.put, List.setIfInBounds_toArray, List.set_cons_zero, List.set_cons_succ, i64_w, i32_w]
            rfl
          refine pure_ (i := 7) (N := some 46) (v := ?_) (a' := ?_) #[true, true, true, true, true, true, true, true, false, false, false, false, false, false, false, false] rfl rfl (by kernel_rfl) (fun _ _ _ h => h) (Or.inl ⟨by rfl, ?_⟩) ?_ ?_
          rotate_left
          · intro w'
            go_simp
            with_reducible rfl
          rotate_left
          · simp only [Act.put, List.setIfInBounds_toArray, List.set_cons_zero, List.set_cons_succ, i64_w, i32_w]
            rfl
          refine pure_ (i := 8) (N := some 47) (v := ?_) (a' := ?_) #[true, true, true, true, true, true, true, true, true, false, false, false, false, false, false, false] rfl rfl (by kernel_rfl) (fun _ _ _ h => h) (Or.inl ⟨by rfl, ?_⟩) ?_ ?_
          rotate_left
          · intro w'
            go_simp
            with_reducible rfl
          rotate_left
          · simp only [Act.put, List.setIfInBounds_toArray, List.set_cons_zero, List.set_cons_succ, i64_w, i32_w]
            rfl
          refine pure_ (i := 9) (N := some 48) (v := ?_) (a' := ?_) #[true, true, true, true, true, true, true, true, true, true, false, false, false, false, false, false] rfl rfl (by kernel_rfl) (fun _ _ _ h => h) (Or.inl ⟨by rfl, ?_⟩) ?_ ?_
          rotate_left
          · intro w'
            go_simp
            with_reducible rfl
          rotate_left
          · simp only [Act.put, List.setIfInBounds_toArray, List.set_cons_zero, List.set_cons_succ, i64_w, i32_w]
            rfl
          refine pure_ (i := 10) (N := some 49) (v := ?_) (a' := ?_) #[true, true, true, true, true, true, true, true, true, true, true, false, false, false, false, false] rfl rfl (by kernel_rfl) (fun _ _ _ h => h) (Or.inl ⟨by rfl, ?_⟩) ?_ ?_
          rotate_left
          · intro w'
            go_simp
            with_reducible rfl
          rotate_left
          · simp only [Act.put, List.setIfInBounds_toArray, List.set_cons_zero, List.set_cons_succ, i64_w, i32_w]
            rfl
          refine one_ (i := 11) (N := some 12) #[true, true, true, true, true, true, true, true, true, true, true, true, false, false, false, false] rfl rfl (by kernel_rfl) (by decide) (fun K hK => ?_)
          refine value_ (v := .pointer (some ⟨w9.heap.size, 0, none⟩)) (w1 := w9.alloc (.cells #[.int .i64 0, .int .i64 0, .int .i64 0, .int .i64 0, .int .i64 0, .int .i64 0, .int .i64 0, .int .i64 0, .int .i64 0] 34)) (by rfl) rfl (by kernel_rfl) ?_
          have BG := Aside0.mk (blk_new w9 (.cells #[.int .i64 0, .int .i64 0, .int .i64 0, .int .i64 0, .int .i64 0, .int .i64 0, .int .i64 0, .int .i64 0, .int .i64 0] 34))
          have HG := Aside0.mk HB.out.size
          have n_B0 := Aside0.mk (blk_alloc B0.out (.cells #[.int .i64 0, .int .i64 0, .int .i64 0, .int .i64 0, .int .i64 0, .int .i64 0, .int .i64 0, .int .i64 0, .int .i64 0] 34))
          have n_B1 := Aside0.mk (blk_alloc B1.out (.cells #[.int .i64 0, .int .i64 0, .int .i64 0, .int .i64 0, .int .i64 0, .int .i64 0, .int .i64 0, .int .i64 0, .int .i64 0] 34))
          have n_B8 := Aside0.mk (blk_alloc B8.out (.cells #[.int .i64 0, .int .i64 0, .int .i64 0, .int .i64 0, .int .i64 0, .int .i64 0, .int .i64 0, .int .i64 0, .int .i64 0] 34))
          have n_HL := Aside0.mk (Kd.C_alloc HL.out (.cells #[.int .i64 0, .int .i64 0, .int .i64 0, .int .i64 0, .int .i64 0, .int .i64 0, .int .i64 0, .int .i64 0, .int .i64 0] 34))
          have n_HM := Aside0.mk (Kd.R_alloc HM.out (.cells #[.int .i64 0, .int .i64 0, .int .i64 0, .int .i64 0, .int .i64 0, .int .i64 0, .int .i64 0, .int .i64 0, .int .i64 0] 34))
          have n_HB := Aside0.mk (below_alloc HB.out (.cells #[.int .i64 0, .int .i64 0, .int .i64 0, .int .i64 0, .int .i64 0, .int .i64 0, .int .i64 0, .int .i64 0, .int .i64 0] 34))
          have n_HC5 := Aside0.mk (Kd.C_alloc HC5.out (.cells #[.int .i64 0, .int .i64 0, .int .i64 0, .int .i64 0, .int .i64 0, .int .i64 0, .int .i64 0, .int .i64 0, .int .i64 0] 34))
          have n_HM6 := Aside0.mk (Kd.R_alloc HM6.out (.cells #[.int .i64 0, .int .i64 0, .int .i64 0, .int .i64 0, .int .i64 0, .int .i64 0, .int .i64 0, .int .i64 0, .int .i64 0] 34))
          clear B0 B1 B8 HL HM HB HC5 HM6 hHeld
          have B0 := n_B0
          have B1 := n_B1
          have B8 := n_B8
          have HL := n_HL
          have HM := n_HM
          have HB := n_HB
          have HC5 := n_HC5
          have HM6 := n_HM6
          clear n_B0 n_B1 n_B8 n_HL n_HM n_HB n_HC5 n_HM6
          refine hK.out _ _ ⟨B0.out, B1.out⟩ (fun hHeld => ?_)
          clear hK K
          refine norm_ (a' := ?_) ?_ ?_
          rotate_left
          · show Act.put _ (some 12) _ = _
            simp only [Act.put, List.setIfInBounds_toArray, List.set_cons_zero, List.set_cons_succ, i64_w, i32_w]
            rfl
          generalize w9.alloc (.cells #[.int .i64 0, .int .i64 0, .int .i64 0, .int .i64 0, .int .i64 0, .int .i64 0, .int .i64 0, .int .i64 0, .int .i64 0] 34) = wa at B0 B1 B8 HL HM HB HC5 HM6 BG hHeld ⊢
          generalize w9.heap.size = g9 at BG HG ⊢
          refine norm_ (a' := _) ?_ (hcont (g9, (A5, cap5), (A6, cap6)) _ ⟨B0.out, B1.out, B8.out, BG.out, HG.out, ⟨_, HM.out⟩, ⟨_, HM6.out⟩, HK6.out, HB.out⟩)
          simp only [putAll, Act.put, List.setIfInBounds_toArray, List.set_cons_zero, List.set_cons_succ]
          try rfl
        ·
          refine value_ (v := .pointer (some ⟨w9.heap.size, 0, none⟩)) (w1 := w9.alloc (.cells #[.int .i64 0, .int .i64 0, .int .i64 0, .int .i64 0, .int .i64 0, .int .i64 0, .int .i64 0, .int .i64 0, .int .i64 0] 34)) (by rfl) rfl (by kernel_rfl) ?_
          have BG := Aside0.mk (blk_new w9 (.cells #[.int .i64 0, .int .i64 0, .int .i64 0, .int .i64 0, .int .i64 0, .int .i64 0, .int .i64 0, .int .i64 0, .int .i64 0] 34))
          have HG := Aside0.mk HB.out.size
          have n_B0 := Aside0.mk (blk_alloc B0.out (.cells #[.int .i64 0, .int .i64 0, .int .i64 0, .int .i64 0, .int .i64 0, .int .i64 0, .int .i64 0, .int .i64 0, .int .i64 0] 34))
          have n_B1 := Aside0.mk (blk_alloc B1.out (.cells #[.int .i64 0, .int .i64 0, .int .i64 0, .int .i64 0, .int .i64 0, .int .i64 0, .int .i64 0, .int .i64 0, .int .i64 0] 34))
          have n_B8 := Aside0.mk (blk_alloc B8.out (.cells #[.int .i64 0, .int .i64 0, .int .i64 0, .int .i64 0, .int .i64 0, .int .i64 0, .int .i64 0, .int .i64 0, .int .i64 0] 34))
          have n_HL := Aside0.mk (Kd.C_alloc HL.out (.cells #[.int .i64 0, .int .i64 0, .int .i64 0, .int .i64 0, .int .i64 0, .int .i64 0, .int .i64 0, .int .i64 0, .int .i64 0] 34))
          have n_HM := Aside0.mk (Kd.R_alloc HM.out (.cells #[.int .i64 0, .int .i64 0, .int .i64 0, .int .i64 0, .int .i64 0, .int .i64 0, .int .i64 0, .int .i64 0, .int .i64 0] 34))
          have n_HB := Aside0.mk (below_alloc HB.out (.cells #[.int .i64 0, .int .i64 0, .int .i64 0, .int .i64 0, .int .i64 0, .int .i64 0, .int .i64 0, .int .i64 0, .int .i64 0] 34))
          have n_HC5 := Aside0.mk (Kd.C_alloc HC5.out (.cells #[.int .i64 0, .int .i64 0, .int .i64 0, .int .i64 0, .int .i64 0, .int .i64 0, .int .i64 0, .int .i64 0, .int .i64 0] 34))
          clear B0 B1 B8 HL HM HB HC5 hHeld
          have B0 := n_B0
          have B1 := n_B1
          have B8 := n_B8
          have HL := n_HL
          have HM := n_HM
          have HB := n_HB
          have HC5 := n_HC5
          clear n_B0 n_B1 n_B8 n_HL n_HM n_HB n_HC5
          refine hK.out _ _ ⟨B0.out, B1.out⟩ (fun hHeld => ?_)
          clear hK K
          refine norm_ (a' := ?_) ?_ ?_
          rotate_left
          · show Act.put _ (some 12) _ = _
            simp only [Act.put, List.setIfInBounds_toArray, List.set_cons_zero, List.set_cons_succ, i64_w, i32_w]
            rfl
          generalize w9.alloc (.cells #[.int .i64 0, .int .i64 0, .int .i64 0, .int .i64 0, .int .i64 0, .int .i64 0, .int .i64 0, .int .i64 0, .int .i64 0] 34) = wa at B0 B1 B8 HL HM HB HC5 BG hHeld ⊢
          generalize w9.heap.size = g9 at BG HG ⊢
          refine one_ (i := 5) (N := some 45) #[true, true, true, true, true, true, false, false, false, false, false, true, false, false, false, false] rfl rfl (by kernel_rfl) (by decide) (fun K hK => ?_)
          refine goes_ Try.func17 (by kernel_rfl) rfl #[c.ref, .agg #[.slice A5 l.length cap5, .int .i64 lo, .int .i64 un], .int .i64 t] (by rfl) rfl rfl (by (try simp only [List.map_toArray, List.map_cons, List.map_nil]); first | done | rfl) ?_
          refine (refrun_calls c HOK.out t t0 t1 A5 cap5 l lo un _ HC5.out HK5.out HN.out HI.out _ HGO.out).mono ?_
          rintro e w9 ⟨v6, rfl, hR, hb⟩
          obtain ⟨A6, cap6, rfl, hcap6, hM6⟩ := Kd.R_reads hR
          have HM6 := Aside0.mk hR
          have HK6 := Aside0.mk hcap6
          clear hM6 hR hcap6
          unfold Cr.ref
          dsimp only at HM6 HK6 ⊢
          refine ⟨_, rfl, ?_⟩
          have n_B0 := Aside0.mk (blk_below B0.out hb)
          have n_B1 := Aside0.mk (blk_below B1.out hb)
          have n_B8 := Aside0.mk (blk_below B8.out hb)
          have n_HL := Aside0.mk (Kd.C_below HL.out hb)
          have n_HM := Aside0.mk (Kd.R_step HM.out (fun k _ hk => hb.block k hk))
          have n_HB := Aside0.mk (below_step HB.out hb)
          have n_HC5 := Aside0.mk (Kd.C_below HC5.out hb)
          have n_BG := Aside0.mk (blk_below BG.out hb)
          clear B0 B1 B8 HL HM HB HC5 BG hb hHeld
          have B0 := n_B0
          have B1 := n_B1
          have B8 := n_B8
          have HL := n_HL
          have HM := n_HM
          have HB := n_HB
          have HC5 := n_HC5
          have BG := n_BG
          clear n_B0 n_B1 n_B8 n_HL n_HM n_HB n_HC5 n_BG
          refine hK.out _ _ ⟨B0.out, B1.out⟩ (fun hHeld => ?_)
          clear hK K
          refine norm_ (a' := ?_) ?_ ?_
          rotate_left
          · show Act.put _ (some 45) _ = _
            simp only [Act.put, List.setIfInBounds_toArray, List.set_cons_zero, List.set_cons_succ, i64_w, i32_w]
            rfl
          refine pure_ (i := 6) (N := some 39) (v := ?_) (a' := ?_) #[true, true, true, true, true, true, true, false, false, false, false, true, false, false, false, false] rfl rfl (by kernel_rfl) (fun _ _ _ h => h) (Or.inl ⟨by rfl, ?_⟩) ?_ ?_
          rotate_left
          · intro w'
            go_simp
            with_reducible rfl
          rotate_left
          · simp only [Act.put, List.setIfInBounds_toArray, List.set_cons_zero, List.set_cons_succ, i64_w, i32_w]
            rfl
          refine pure_ (i := 7) (N := some 46) (v := ?_) (a' := ?_) #[true, true, true, true, true, true, true, true, false, false, false, true, false, false, false, false] rfl rfl (by kernel_rfl) (fun _ _ _ h => h) (Or.inl ⟨by rfl, ?_⟩) ?_ ?_
          rotate_left
          · intro w'
            go_simp
            with_reducible rfl
          rotate_left
          · simp only [Act.put, List.setIfInBounds_toArray, List.set_cons_zero, List.set_cons_succ, i64_w, i32_w]
            rfl
          refine pure_ (i := 8) (N := some 47) (v := ?_) (a' := ?_) #[true, true, true, true, true, true, true, true, true, false, false, true, false, false, false, false] rfl rfl (by kernel_rfl) (fun _ _ _ h => h) (Or.inl ⟨by rfl, ?_⟩) ?_ ?_
          rotate_left
          · intro w'
            go_simp
            with_reducible rfl
          rotate_left
          · simp only [Act.put, List.setIfInBounds_toArray, List.set_cons_zero, List.set_cons_succ, i64_w, i32_w]
            rfl
          refine pure_ (i := 9) (N := some 48) (v := ?_) (a' := ?_) #[true, true, true, true, true, true, true, true, true, true, false, true, false, false, false, false] rfl rfl (by kernel_rfl) (fun _ _ _ h => h) (Or.inl ⟨by rfl, ?_⟩) ?_ ?_
          rotate_left
          · intro w'
            go_simp
            with_reducible rfl
          rotate_left
          · simp only [Act.put, List.setIfInBounds_toArray, List.set_cons_zero, List.set_cons_succ, i64_w, i32_w]
            rfl
          refine pure_ (i := 10) (N := some 49) (v := ?_) (a' := ?_) #[true, true, true, true, true, true, true, true, true, true, true, true, false, false, false, false] rfl rfl (by kernel_rfl) (fun _ _ _ h => h) (Or.inl ⟨by rfl, ?_⟩) ?_ ?_
          rotate_left
          · intro w'
            go_simp
            with_reducible rfl
          rotate_left
          · simp only [Act.put, List.setIfInBounds_toArray, List.set_cons_zero, List.set_cons_succ, i64_w, i32_w]
            rfl
          refine norm_ (a' := _) ?_ (hcont (g9, (A5, cap5), (A6, cap6)) _ ⟨B0.out, B1.out, B8.out, BG.out, HG.out, ⟨_, HM.out⟩, ⟨_, HM6.out⟩, HK6.out, HB.out⟩)
          simp only [putAll, Act.put, List.setIfInBounds_toArray, List.set_cons_zero, List.set_cons_succ]
          try rfl
      ·
        refine value_ (v := .pointer (some ⟨w9.heap.size, 0, none⟩)) (w1 := w9.alloc (.cells #[.int .i64 0, .int .i64 0, .int .i64 0, .int .i64 0, .int .i64 0, .int .i64 0, .int .i64 0, .int .i64 0, .int .i64 0] 34)) (by rfl) rfl (by kernel_rfl) ?_
        have BG := Aside0.mk (blk_new w9 (.cells #[.int .i64 0, .int .i64 0, .int .i64 0, .int .i64 0, .int .i64 0, .int .i64 0, .int .i64 0, .int .i64 0, .int .i64 0] 34))
        have HG := Aside0.mk HB.out.size
        have n_B0 := Aside0.mk (blk_alloc B0.out (.cells #[.int .i64 0, .int .i64 0, .int .i64 0, .int .i64 0, .int .i64 0, .int .i64 0, .int .i64 0, .int .i64 0, .int .i64 0] 34))
        have n_B1 := Aside0.mk (blk_alloc B1.out (.cells #[.int .i64 0, .int .i64 0, .int .i64 0, .int .i64 0, .int .i64 0, .int .i64 0, .int .i64 0, .int .i64 0, .int .i64 0] 34))
        have n_B8 := Aside0.mk (blk_alloc B8.out (.cells #[.int .i64 0, .int .i64 0, .int .i64 0, .int .i64 0, .int .i64 0, .int .i64 0, .int .i64 0, .int .i64 0, .int .i64 0] 34))
        have n_HL := Aside0.mk (Kd.C_alloc HL.out (.cells #[.int .i64 0, .int .i64 0, .int .i64 0, .int .i64 0, .int .i64 0, .int .i64 0, .int .i64 0, .int .i64 0, .int .i64 0] 34))
        have n_HM := Aside0.mk (Kd.R_alloc HM.out (.cells #[.int .i64 0, .int .i64 0, .int .i64 0, .int .i64 0, .int .i64 0, .int .i64 0, .int .i64 0, .int .i64 0, .int .i64 0] 34))
        have n_HB := Aside0.mk (below_alloc HB.out (.cells #[.int .i64 0, .int .i64 0, .int .i64 0, .int .i64 0, .int .i64 0, .int .i64 0, .int .i64 0, .int .i64 0, .int .i64 0] 34))
        clear B0 B1 B8 HL HM HB hHeld
        have B0 := n_B0
        have B1 := n_B1
        have B8 := n_B8
        have HL := n_HL
        have HM := n_HM
        have HB := n_HB
        clear n_B0 n_B1 n_B8 n_HL n_HM n_HB
        refine hK.out _ _ ⟨B0.out, B1.out⟩ (fun hHeld => ?_)
        clear hK K
        refine norm_ (a' := ?_) ?_ ?_
        rotate_left
        · show Act.put _ (some 12) _ = _
          simp only [Act.put, List.setIfInBounds_toArray, List.set_cons_zero, List.set_cons_succ, i64_w, i32_w]
          rfl
        generalize w9.alloc (.cells #[.int .i64 0, .int .i64 0, .int .i64 0, .int .i64 0, .int .i64 0, .int .i64 0, .int .i64 0, .int .i64 0, .int .i64 0] 34) = wa at B0 B1 B8 HL HM HB BG hHeld ⊢
        generalize w9.heap.size = g9 at BG HG ⊢
        refine one_ (i := 3) (N := some 43) #[true, true, true, true, true, false, false, false, false, false, false, true, false, false, false, false] rfl rfl (by kernel_rfl) (by decide) (fun K hK => ?_)
        refine goes_ Try.func15 (by kernel_rfl) rfl #[.agg #[.slice A l.length cap, .int .i64 lo, .int .i64 un]] (by rfl) rfl rfl (by (try simp only [List.map_toArray, List.map_cons, List.map_nil]); first | done | rfl) ?_
        refine (ref7_calls A cap l lo un _ HL.out HCAP.out HN.out).mono ?_
        rintro e w9 ⟨A5, cap5, rfl, hcap5, hC5, hb⟩
        have HC5 := Aside0.mk hC5
        have HK5 := Aside0.mk hcap5
        clear hC5 hcap5
        refine ⟨_, rfl, ?_⟩
        have n_B0 := Aside0.mk (blk_below B0.out hb)
        have n_B1 := Aside0.mk (blk_below B1.out hb)
        have n_B8 := Aside0.mk (blk_below B8.out hb)
        have n_HL := Aside0.mk (Kd.C_below HL.out hb)
        have n_HM := Aside0.mk (Kd.R_step HM.out (fun k _ hk => hb.block k hk))
        have n_HB := Aside0.mk (below_step HB.out hb)
        have n_BG := Aside0.mk (blk_below BG.out hb)
        clear B0 B1 B8 HL HM HB BG hb hHeld
        have B0 := n_B0
        have B1 := n_B1
        have B8 := n_B8
        have HL := n_HL
        have HM := n_HM
        have HB := n_HB
        have BG := n_BG
        clear n_B0 n_B1 n_B8 n_HL n_HM n_HB n_BG
        refine hK.out _ _ ⟨B0.out, B1.out⟩ (fun hHeld => ?_)
        clear hK K
        refine norm_ (a' := ?_) ?_ ?_
        rotate_left
        · show Act.put _ (some 43) _ = _
          simp only [Act.put, List.setIfInBounds_toArray, List.set_cons_zero, List.set_cons_succ, i64_w, i32_w]
          rfl
        refine one_ (i := 5) (N := some 45) #[true, true, true, true, true, true, false, false, false, false, false, true, false, false, false, false] rfl rfl (by kernel_rfl) (by decide) (fun K hK => ?_)
        refine goes_ Try.func17 (by kernel_rfl) rfl #[c.ref, .agg #[.slice A5 l.length cap5, .int .i64 lo, .int .i64 un], .int .i64 t] (by rfl) rfl rfl (by (try simp only [List.map_toArray, List.map_cons, List.map_nil]); first | done | rfl) ?_
        refine (refrun_calls c HOK.out t t0 t1 A5 cap5 l lo un _ HC5.out HK5.out HN.out HI.out _ HGO.out).mono ?_
        rintro e w9 ⟨v6, rfl, hR, hb⟩
        obtain ⟨A6, cap6, rfl, hcap6, hM6⟩ := Kd.R_reads hR
        have HM6 := Aside0.mk hR
        have HK6 := Aside0.mk hcap6
        clear hM6 hR hcap6
        unfold Cr.ref
        dsimp only at HM6 HK6 ⊢
        refine ⟨_, rfl, ?_⟩
        have n_B0 := Aside0.mk (blk_below B0.out hb)
        have n_B1 := Aside0.mk (blk_below B1.out hb)
        have n_B8 := Aside0.mk (blk_below B8.out hb)
        have n_HL := Aside0.mk (Kd.C_below HL.out hb)
        have n_HM := Aside0.mk (Kd.R_step HM.out (fun k _ hk => hb.block k hk))
        have n_HB := Aside0.mk (below_step HB.out hb)
        have n_BG := Aside0.mk (blk_below BG.out hb)
        have n_HC5 := Aside0.mk (Kd.C_below HC5.out hb)
        clear B0 B1 B8 HL HM HB BG HC5 hb hHeld
        have B0 := n_B0
        have B1 := n_B1
        have B8 := n_B8
        have HL := n_HL
        have HM := n_HM
        have HB := n_HB
        have BG := n_BG
        have HC5 := n_HC5
        clear n_B0 n_B1 n_B8 n_HL n_HM n_HB n_BG n_HC5
        refine hK.out _ _ ⟨B0.out, B1.out⟩ (fun hHeld => ?_)
        clear hK K
        refine norm_ (a' := ?_) ?_ ?_
        rotate_left
        · show Act.put _ (some 45) _ = _
          simp only [Act.put, List.setIfInBounds_toArray, List.set_cons_zero, List.set_cons_succ, i64_w, i32_w]
          rfl
        refine pure_ (i := 6) (N := some 39) (v := ?_) (a' := ?_) #[true, true, true, true, true, true, true, false, false, false, false, true, false, false, false, false] rfl rfl (by kernel_rfl) (fun _ _ _ h => h) (Or.inl ⟨by rfl, ?_⟩) ?_ ?_
        rotate_left
        · intro w'
          go_simp
          with_reducible rfl
        rotate_left
        · simp only [Act.put, List.setIfInBounds_toArray, List.set_cons_zero, List.set_cons_succ, i64_w, i32_w]
          rfl
        refine pure_ (i := 7) (N := some 46) (v := ?_) (a' := ?_) #[true, true, true, true, true, true, true, true, false, false, false, true, false, false, false, false] rfl rfl (by kernel_rfl) (fun _ _ _ h => h) (Or.inl ⟨by rfl, ?_⟩) ?_ ?_
        rotate_left
        · intro w'
          go_simp
          with_reducible rfl
        rotate_left
        · simp only [Act.put, List.setIfInBounds_toArray, List.set_cons_zero, List.set_cons_succ, i64_w, i32_w]
          rfl
        refine pure_ (i := 8) (N := some 47) (v := ?_) (a' := ?_) #[true, true, true, true, true, true, true, true, true, false, false, true, false, false, false, false] rfl rfl (by kernel_rfl) (fun _ _ _ h => h) (Or.inl ⟨by rfl, ?_⟩) ?_ ?_
        rotate_left
        · intro w'
          go_simp
          with_reducible rfl
        rotate_left
        · simp only [Act.put, List.setIfInBounds_toArray, List.set_cons_zero, List.set_cons_succ, i64_w, i32_w]
          rfl
        refine pure_ (i := 9) (N := some 48) (v := ?_) (a' := ?_) #[true, true, true, true, true, true, true, true, true, true, false, true, false, false, false, false] rfl rfl (by kernel_rfl) (fun _ _ _ h => h) (Or.inl ⟨by rfl, ?_⟩) ?_ ?_
        rotate_left
        · intro w'
          go_simp
          with_reducible rfl
        rotate_left
        · simp only [Act.put, List.setIfInBounds_toArray, List.set_cons_zero, List.set_cons_succ, i64_w, i32_w]
          rfl
        refine pure_ (i := 10) (N := some 49) (v := ?_) (a' := ?_) #[true, true, true, true, true, true, true, true, true, true, true, true, false, false, false, false] rfl rfl (by kernel_rfl) (fun _ _ _ h => h) (Or.inl ⟨by rfl, ?_⟩) ?_ ?_
        rotate_left
        · intro w'
          go_simp
          with_reducible rfl
        rotate_left
        · simp only [Act.put, List.setIfInBounds_toArray, List.set_cons_zero, List.set_cons_succ, i64_w, i32_w]
          rfl
        refine norm_ (a' := _) ?_ (hcont (g9, (A5, cap5), (A6, cap6)) _ ⟨B0.out, B1.out, B8.out, BG.out, HG.out, ⟨_, HM.out⟩, ⟨_, HM6.out⟩, HK6.out, HB.out⟩)
        simp only [putAll, Act.put, List.setIfInBounds_toArray, List.set_cons_zero, List.set_cons_succ]
        try rfl
    ·
      refine value_ (v := .pointer (some ⟨w5.heap.size, 0, none⟩)) (w1 := w5.alloc (.cells #[.int .i64 0, .int .i64 0, .int .i64 0, .int .i64 0, .int .i64 0, .int .i64 0, .int .i64 0, .int .i64 0, .int .i64 0] 34)) (by rfl) rfl (by kernel_rfl) ?_
      have BG := Aside0.mk (blk_new w5 (.cells #[.int .i64 0, .int .i64 0, .int .i64 0, .int .i64 0, .int .i64 0, .int .i64 0, .int .i64 0, .int .i64 0, .int .i64 0] 34))
      have HG := Aside0.mk HB.out.size
      have n_B0 := Aside0.mk (blk_alloc B0.out (.cells #[.int .i64 0, .int .i64 0, .int .i64 0, .int .i64 0, .int .i64 0, .int .i64 0, .int .i64 0, .int .i64 0, .int .i64 0] 34))
      have n_B1 := Aside0.mk (blk_alloc B1.out (.cells #[.int .i64 0, .int .i64 0, .int .i64 0, .int .i64 0, .int .i64 0, .int .i64 0, .int .i64 0, .int .i64 0, .int .i64 0] 34))
      have n_B8 := Aside0.mk (blk_alloc B8.out (.cells #[.int .i64 0, .int .i64 0, .int .i64 0, .int .i64 0, .int .i64 0, .int .i64 0, .int .i64 0, .int .i64 0, .int .i64 0] 34))
      have n_HL := Aside0.mk (Kd.C_alloc HL.out (.cells #[.int .i64 0, .int .i64 0, .int .i64 0, .int .i64 0, .int .i64 0, .int .i64 0, .int .i64 0, .int .i64 0, .int .i64 0] 34))
      have n_HM := Aside0.mk (Kd.R_alloc HM.out (.cells #[.int .i64 0, .int .i64 0, .int .i64 0, .int .i64 0, .int .i64 0, .int .i64 0, .int .i64 0, .int .i64 0, .int .i64 0] 34))
      have n_HB := Aside0.mk (below_alloc HB.out (.cells #[.int .i64 0, .int .i64 0, .int .i64 0, .int .i64 0, .int .i64 0, .int .i64 0, .int .i64 0, .int .i64 0, .int .i64 0] 34))
      clear B0 B1 B8 HL HM HB hHeld
      have B0 := n_B0
      have B1 := n_B1
      have B8 := n_B8
      have HL := n_HL
      have HM := n_HM
      have HB := n_HB
      clear n_B0 n_B1 n_B8 n_HL n_HM n_HB
      refine hK.out _ _ ⟨B0.out, B1.out⟩ (fun hHeld => ?_)
      clear hK K
      refine norm_ (a' := ?_) ?_ ?_
      rotate_left
      · show Act.put _ (some 12) _ = _
        simp only [Act.put, List.setIfInBounds_toArray, List.set_cons_zero, List.set_cons_succ, i64_w, i32_w]
        rfl
      generalize w5.alloc (.cells #[.int .i64 0, .int .i64 0, .int .i64 0, .int .i64 0, .int .i64 0, .int .i64 0, .int .i64 0, .int .i64 0, .int .i64 0] 34) = wa at B0 B1 B8 HL HM HB BG hHeld ⊢
      generalize w5.heap.size = g9 at BG HG ⊢
      refine one_ (i := 1) (N := some 41) #[true, true, true, false, true, false, false, false, false, false, false, true, false, false, false, false] rfl rfl (by kernel_rfl) (by decide) (fun K hK => ?_)
      refine goes_ Try.func11 (by kernel_rfl) rfl #[.agg #[.int .u32 c.r0, .int .u32 c.r1, .int .u32 c.r2, .int .u32 c.r3, .int .u32 c.r4, .int .u32 c.r5, .int .u32 c.r6, .int .u32 c.r7, .int .i64 c.pc]] (by rfl) rfl rfl (by (try simp only [List.map_toArray, List.map_cons, List.map_nil]); first | done | rfl) ?_
      refine (toRef_calls c HOK.out _).mono ?_
      rintro e w9 ⟨rfl, hb⟩
      refine ⟨_, rfl, ?_⟩
      have n_B0 := Aside0.mk (blk_below B0.out hb)
      have n_B1 := Aside0.mk (blk_below B1.out hb)
      have n_B8 := Aside0.mk (blk_below B8.out hb)
      have n_HL := Aside0.mk (Kd.C_below HL.out hb)
      have n_HM := Aside0.mk (Kd.R_step HM.out (fun k _ hk => hb.block k hk))
      have n_HB := Aside0.mk (below_step HB.out hb)
      have n_BG := Aside0.mk (blk_below BG.out hb)
      clear B0 B1 B8 HL HM HB BG hb hHeld
      have B0 := n_B0
      have B1 := n_B1
      have B8 := n_B8
      have HL := n_HL
      have HM := n_HM
      have HB := n_HB
      have BG := n_BG
      clear n_B0 n_B1 n_B8 n_HL n_HM n_HB n_BG
      refine hK.out _ _ ⟨B0.out, B1.out⟩ (fun hHeld => ?_)
      clear hK K
      refine norm_ (a' := ?_) ?_ ?_
      rotate_left
      · show Act.put _ (some 41) _ = _
        simp only [Act.put, List.setIfInBounds_toArray, List.set_cons_zero, List.set_cons_succ, i64_w, i32_w]
        rfl
      refine one_ (i := 3) (N := some 43) #[true, true, true, true, true, false, false, false, false, false, false, true, false, false, false, false] rfl rfl (by kernel_rfl) (by decide) (fun K hK => ?_)
      refine goes_ Try.func15 (by kernel_rfl) rfl #[.agg #[.slice A l.length cap, .int .i64 lo, .int .i64 un]] (by rfl) rfl rfl (by (try simp only [List.map_toArray, List.map_cons, List.map_nil]); first | done | rfl) ?_
      refine (ref7_calls A cap l lo un _ HL.out HCAP.out HN.out).mono ?_
      rintro e w9 ⟨A5, cap5, rfl, hcap5, hC5, hb⟩
      have HC5 := Aside0.mk hC5
      have HK5 := Aside0.mk hcap5
      clear hC5 hcap5
      refine ⟨_, rfl, ?_⟩
      have n_B0 := Aside0.mk (blk_below B0.out hb)
      have n_B1 := Aside0.mk (blk_below B1.out hb)
      have n_B8 := Aside0.mk (blk_below B8.out hb)
      have n_HL := Aside0.mk (Kd.C_below HL.out hb)
      have n_HM := Aside0.mk (Kd.R_step HM.out (fun k _ hk => hb.block k hk))
      have n_HB := Aside0.mk (below_step HB.out hb)
      have n_BG := Aside0.mk (blk_below BG.out hb)
      clear B0 B1 B8 HL HM HB BG hb hHeld
      have B0 := n_B0
      have B1 := n_B1
      have B8 := n_B8
      have HL := n_HL
      have HM := n_HM
      have HB := n_HB
      have BG := n_BG
      clear n_B0 n_B1 n_B8 n_HL n_HM n_HB n_BG
      refine hK.out _ _ ⟨B0.out, B1.out⟩ (fun hHeld => ?_)
      clear hK K
      refine norm_ (a' := ?_) ?_ ?_
      rotate_left
      · show Act.put _ (some 43) _ = _
        simp only [Act.put, List.setIfInBounds_toArray, List.set_cons_zero, List.set_cons_succ, i64_w, i32_w]
        rfl
      refine one_ (i := 5) (N := some 45) #[true, true, true, true, true, true, false, false, false, false, false, true, false, false, false, false] rfl rfl (by kernel_rfl) (by decide) (fun K hK => ?_)
      refine goes_ Try.func17 (by kernel_rfl) rfl #[c.ref, .agg #[.slice A5 l.length cap5, .int .i64 lo, .int .i64 un], .int .i64 t] (by rfl) rfl rfl (by (try simp only [List.map_toArray, List.map_cons, List.map_nil]); first | done | rfl) ?_
      refine (refrun_calls c HOK.out t t0 t1 A5 cap5 l lo un _ HC5.out HK5.out HN.out HI.out _ HGO.out).mono ?_
      rintro e w9 ⟨v6, rfl, hR, hb⟩
      obtain ⟨A6, cap6, rfl, hcap6, hM6⟩ := Kd.R_reads hR
      have HM6 := Aside0.mk hR
      have HK6 := Aside0.mk hcap6
      clear hM6 hR hcap6
      unfold Cr.ref
      dsimp only at HM6 HK6 ⊢
      refine ⟨_, rfl, ?_⟩
      have n_B0 := Aside0.mk (blk_below B0.out hb)
      have n_B1 := Aside0.mk (blk_below B1.out hb)
      have n_B8 := Aside0.mk (blk_below B8.out hb)
      have n_HL := Aside0.mk (Kd.C_below HL.out hb)
      have n_HM := Aside0.mk (Kd.R_step HM.out (fun k _ hk => hb.block k hk))
      have n_HB := Aside0.mk (below_step HB.out hb)
      have n_BG := Aside0.mk (blk_below BG.out hb)
      have n_HC5 := Aside0.mk (Kd.C_below HC5.out hb)
      clear B0 B1 B8 HL HM HB BG HC5 hb hHeld
      have B0 := n_B0
      have B1 := n_B1
      have B8 := n_B8
      have HL := n_HL
      have HM := n_HM
      have HB := n_HB
      have BG := n_BG
      have HC5 := n_HC5
      clear n_B0 n_B1 n_B8 n_HL n_HM n_HB n_BG n_HC5
      refine hK.out _ _ ⟨B0.out, B1.out⟩ (fun hHeld => ?_)
      clear hK K
      refine norm_ (a' := ?_) ?_ ?_
      rotate_left
      · show Act.put _ (some 45) _ = _
        simp only [Act.put, List.setIfInBounds_toArray, List.set_cons_zero, List.set_cons_succ, i64_w, i32_w]
        rfl
      refine pure_ (i := 6) (N := some 39) (v := ?_) (a' := ?_) #[true, true, true, true, true, true, true, false, false, false, false, true, false, false, false, false] rfl rfl (by kernel_rfl) (fun _ _ _ h => h) (Or.inl ⟨by rfl, ?_⟩) ?_ ?_
      rotate_left
      · intro w'
        go_simp
        with_reducible rfl
      rotate_left
      · simp only [Act.put, List.setIfInBounds_toArray, List.set_cons_zero, List.set_cons_succ, i64_w, i32_w]
        rfl
      refine pure_ (i := 7) (N := some 46) (v := ?_) (a' := ?_) #[true, true, true, true, true, true, true, true, false, false, false, true, false, false, false, false] rfl rfl (by kernel_rfl) (fun _ _ _ h => h) (Or.inl ⟨by rfl, ?_⟩) ?_ ?_
      rotate_left
      · intro w'
        go_simp
        with_reducible rfl
      rotate_left
      · simp only [Act.put, List.setIfInBounds_toArray, List.set_cons_zero, List.set_cons_succ, i64_w, i32_w]
        rfl
      refine pure_ (i := 8) (N := some 47) (v := ?_) (a' := ?_) #[true, true, true, true, true, true, true, true, true, false, false, true, false, false, false, false] rfl rfl (by kernel_rfl) (fun _ _ _ h => h) (Or.inl ⟨by rfl, ?_⟩) ?_ ?_
      rotate_left
      · intro w'
        go_simp
        with_reducible rfl
      rotate_left
      · simp only [Act.put, List.setIfInBounds_toArray, List.set_cons_zero, List.set_cons_succ, i64_w, i32_w]
        rfl
      refine pure_ (i := 9) (N := some 48) (v := ?_) (a' := ?_) #[true, true, true, true, true, true, true, true, true, true, false, true, false, false, false, false] rfl rfl (by kernel_rfl) (fun _ _ _ h => h) (Or.inl ⟨by rfl, ?_⟩) ?_ ?_
      rotate_left
      · intro w'
        go_simp
        with_reducible rfl
      rotate_left
      · simp only [Act.put, List.setIfInBounds_toArray, List.set_cons_zero, List.set_cons_succ, i64_w, i32_w]
        rfl
      refine pure_ (i := 10) (N := some 49) (v := ?_) (a' := ?_) #[true, true, true, true, true, true, true, true, true, true, true, true, false, false, false, false] rfl rfl (by kernel_rfl) (fun _ _ _ h => h) (Or.inl ⟨by rfl, ?_⟩) ?_ ?_
      rotate_left
      · intro w'
        go_simp
        with_reducible rfl
      rotate_left
      · simp only [Act.put, List.setIfInBounds_toArray, List.set_cons_zero, List.set_cons_succ, i64_w, i32_w]
        rfl
      refine norm_ (a' := _) ?_ (hcont (g9, (A5, cap5), (A6, cap6)) _ ⟨B0.out, B1.out, B8.out, BG.out, HG.out, ⟨_, HM.out⟩, ⟨_, HM6.out⟩, HK6.out, HB.out⟩)
      simp only [putAll, Act.put, List.setIfInBounds_toArray, List.set_cons_zero, List.set_cons_succ]
      try rfl
  case cont =>
    clear B0 B1 B8 HL HM HB hHeld
    rintro ⟨g9, ⟨A5, cap5⟩, ⟨A6, cap6⟩⟩ wf ⟨hf0, hf1, hf8, hfg, hg9, ⟨b3, hfm⟩, ⟨b6, hfm6⟩, hfk6, hfb⟩
    dsimp only at hfg hg9 hfm6 hfk6 ⊢
    have B0 := Aside0.mk hf0
    have B1 := Aside0.mk hf1
    have B8 := Aside0.mk hf8
    have BG := Aside0.mk hfg
    have HG := Aside0.mk hg9
    have HM := Aside0.mk hfm
    have HM6 := Aside0.mk hfm6
    have HK6 := Aside0.mk hfk6
    have HB := Aside0.mk hfb
    clear hf0 hf1 hf8 hfg hg9 hfm hfm6 hfk6 hfb
    refine norm_ (a' := ?_) ?_ ?_
    rotate_left
    · simp only [putAll, Act.put, Cr.ref, List.setIfInBounds_toArray, List.set_cons_zero, List.set_cons_succ]
      rfl
    refine one_ (i := 12) (N := none) #[true, true, true, true, true, true, true, true, true, true, true, true, true, false, false, false] rfl rfl (by kernel_rfl) (by decide) (fun K hK => ?_)
    rw [if_pos (by rfl)]
    refine wp_store_row 34 (.tmp 12) (.tmp 46) rfl g9 #[.int .i64 x.r0, .int .i64 x.r1, .int .i64 x.r2, .int .i64 x.r3, .int .i64 x.r4, .int .i64 x.r5, .int .i64 x.r6, .int .i64 x.r7, .int .i64 x.pc] rfl rfl 34 _ BG.out (by kernel_rfl) rfl (by kernel_rfl) ?_
    have ne0 : w.heap.size ≠ g9 := blk_ne B0.out BG.out (by decide)
    have ne1 : w.heap.size + 1 ≠ g9 := blk_ne B1.out BG.out (by decide)
    have ne8 : g8 ≠ g9 := blk_ne B8.out BG.out (by decide)
    have n_B0 := Aside0.mk ((setRow_other wf g9 _ #[.int .i64 x.r0, .int .i64 x.r1, .int .i64 x.r2, .int .i64 x.r3, .int .i64 x.r4, .int .i64 x.r5, .int .i64 x.r6, .int .i64 x.r7, .int .i64 x.pc] ne0).trans B0.out)
    have n_B1 := Aside0.mk ((setRow_other wf g9 _ #[.int .i64 x.r0, .int .i64 x.r1, .int .i64 x.r2, .int .i64 x.r3, .int .i64 x.r4, .int .i64 x.r5, .int .i64 x.r6, .int .i64 x.r7, .int .i64 x.pc] ne1).trans B1.out)
    have n_B8 := Aside0.mk ((setRow_other wf g9 _ #[.int .i64 x.r0, .int .i64 x.r1, .int .i64 x.r2, .int .i64 x.r3, .int .i64 x.r4, .int .i64 x.r5, .int .i64 x.r6, .int .i64 x.r7, .int .i64 x.pc] ne8).trans B8.out)
    have n_BG := Aside0.mk (setRow_heap wf g9 _ #[.int .i64 x.r0, .int .i64 x.r1, .int .i64 x.r2, .int .i64 x.r3, .int .i64 x.r4, .int .i64 x.r5, .int .i64 x.r6, .int .i64 x.r7, .int .i64 x.pc] 34 (0, 0) BG.out)
    have n_HM := Aside0.mk (R_setRow HM.out BG.out #[.int .i64 x.r0, .int .i64 x.r1, .int .i64 x.r2, .int .i64 x.r3, .int .i64 x.r4, .int .i64 x.r5, .int .i64 x.r6, .int .i64 x.r7, .int .i64 x.pc])
    have n_HM6 := Aside0.mk (R_setRow HM6.out BG.out #[.int .i64 x.r0, .int .i64 x.r1, .int .i64 x.r2, .int .i64 x.r3, .int .i64 x.r4, .int .i64 x.r5, .int .i64 x.r6, .int .i64 x.r7, .int .i64 x.pc])
    have n_HB := Aside0.mk (below_setRow HB.out HG.out #[.int .i64 x.r0, .int .i64 x.r1, .int .i64 x.r2, .int .i64 x.r3, .int .i64 x.r4, .int .i64 x.r5, .int .i64 x.r6, .int .i64 x.r7, .int .i64 x.pc])
    clear ne0 ne1 ne8 B0 B1 B8 BG HM HM6 HB
    have B0 := n_B0
    have B1 := n_B1
    have B8 := n_B8
    have BG := n_BG
    have HM := n_HM
    have HM6 := n_HM6
    have HB := n_HB
    clear n_B0 n_B1 n_B8 n_BG n_HM n_HM6 n_HB
    generalize wf.setRow g9 #[.int .i64 x.r0, .int .i64 x.r1, .int .i64 x.r2, .int .i64 x.r3, .int .i64 x.r4, .int .i64 x.r5, .int .i64 x.r6, .int .i64 x.r7, .int .i64 x.pc] = wg at B0 B1 B8 BG HM HM6 HB ⊢
    refine hK.out _ _ ⟨B0.out, B1.out⟩ (fun hHeld => ?_)
    clear hK K
    refine norm_ (a' := ?_) ?_ ?_
    rotate_left
    · show Act.put _ (none) _ = _
      simp only [Act.put, List.setIfInBounds_toArray, List.set_cons_zero, List.set_cons_succ, i64_w, i32_w]
      rfl
    refine pure_ (i := 13) (N := some 13) (v := ?_) (a' := ?_) #[true, true, true, true, true, true, true, true, true, true, true, true, true, true, false, false] rfl rfl (by kernel_rfl) (fun _ _ _ h => h) (Or.inl ⟨by rfl, ?_⟩) ?_ ?_
    rotate_left
    · intro w'
      go_simp
      with_reducible rfl
    rotate_left
    · simp only [Act.put, List.setIfInBounds_toArray, List.set_cons_zero, List.set_cons_succ, i64_w, i32_w]
      rfl
    refine pure_ (i := 14) (N := some 14) (v := ?_) (a' := ?_) #[true, true, true, true, true, true, true, true, true, true, true, true, true, true, true, false] rfl rfl (by kernel_rfl) (fun _ _ _ h => h) (Or.inl ⟨by rfl, ?_⟩) ?_ ?_
    rotate_left
    · intro w'
      go_simp
      with_reducible rfl
    rotate_left
    · simp only [Act.put, List.setIfInBounds_toArray, List.set_cons_zero, List.set_cons_succ, i64_w, i32_w]
      rfl
    refine pure_ (i := 15) (N := some 15) (v := ?_) (a' := ?_) #[true, true, true, true, true, true, true, true, true, true, true, true, true, true, true, true] rfl rfl (by kernel_rfl) (fun _ _ _ h => h) (Or.inl ⟨by rfl, ?_⟩) ?_ ?_
    rotate_left
    · intro w'
      go_simp
      with_reducible rfl
    rotate_left
    · simp only [Act.put, List.setIfInBounds_toArray, List.set_cons_zero, List.set_cons_succ, i64_w, i32_w]
      rfl
    refine done_ (by kernel_rfl) ?_
    clear hHeld
    go_wp2_with fail
    refine start_ (n := 23) (S := fun w' => w'.heap[g8]? = some (.cells #[.int .u32 x.r0, .int .u32 x.r1, .int .u32 x.r2, .int .u32 x.r3, .int .u32 x.r4, .int .u32 x.r5, .int .u32 x.r6, .int .u32 x.r7, .int .i64 x.pc] 25 (0, 0)) ∧ w'.heap[g9]? = some (.cells #[.int .i64 x.r0, .int .i64 x.r1, .int .i64 x.r2, .int .i64 x.r3, .int .i64 x.r4, .int .i64 x.r5, .int .i64 x.r6, .int .i64 x.r7, .int .i64 x.pc] 34 (0, 0))) (ds := []) #[false, false, false, false, false, false, false, false, false, false, false, false, false, false, false, false, false, false, false, false, false, false, false] (by kernel_rfl) rfl rfl ⟨B8.out, BG.out⟩ (fun hHeld => ?_)
    have n_B0 := Aside0.mk ((show (wg.drew).heap[w.heap.size]? = some (.cells #[.int .u32 c.r0, .int .u32 c.r1, .int .u32 c.r2, .int .u32 c.r3, .int .u32 c.r4, .int .u32 c.r5, .int .u32 c.r6, .int .u32 c.r7, .int .i64 c.pc] 25 (0, 0)) from B0.out))
    have n_B1 := Aside0.mk ((show (wg.drew).heap[w.heap.size + 1]? = some (.cells #[.slice A l.length cap, .int .i64 lo, .int .i64 un] 41 (0, 0)) from B1.out))
    have n_B8 := Aside0.mk ((show (wg.drew).heap[g8]? = some (.cells #[.int .u32 x.r0, .int .u32 x.r1, .int .u32 x.r2, .int .u32 x.r3, .int .u32 x.r4, .int .u32 x.r5, .int .u32 x.r6, .int .u32 x.r7, .int .i64 x.pc] 25 (0, 0)) from B8.out))
    have n_BG := Aside0.mk ((show (wg.drew).heap[g9]? = some (.cells #[.int .i64 x.r0, .int .i64 x.r1, .int .i64 x.r2, .int .i64 x.r3, .int .i64 x.r4, .int .i64 x.r5, .int .i64 x.r6, .int .i64 x.r7, .int .i64 x.pc] 34 (0, 0)) from BG.out))
    have n_HM := Aside0.mk (Kd.R_drew HM.out)
    have n_HM6 := Aside0.mk (Kd.R_drew HM6.out)
    have n_HB := Aside0.mk (below_drew HB.out)
    clear B0 B1 B8 BG HM HM6 HB
    have B0 := n_B0
    have B1 := n_B1
    have B8 := n_B8
    have BG := n_BG
    have HM := n_HM
    have HM6 := n_HM6
    have HB := n_HB
    clear n_B0 n_B1 n_B8 n_BG n_HM n_HM6 n_HB
    generalize wg.drew = wh at B0 B1 B8 BG HM HM6 HB hHeld ⊢
    refine take_ (i := 0) (N := some 50) (v := .agg #[.int .u32 x.r0, .int .u32 x.r1, .int .u32 x.r2, .int .u32 x.r3, .int .u32 x.r4, .int .u32 x.r5, .int .u32 x.r6, .int .u32 x.r7, .int .i64 x.pc]) (a' := ?_) #[true, false, false, false, false, false, false, false, false, false, false, false, false, false, false, false, false, false, false, false, false, false, false] rfl rfl (by kernel_rfl) (fun _ _ _ h => h) (Or.inl ⟨by rfl, ?_⟩) hHeld ?_ ?_
    · intro w' hS
      have B := hS.1
      clear hHeld hS
      have c0 := (blk_cell B 0).trans rfl
      have c1 := (blk_cell B 1).trans rfl
      have c2 := (blk_cell B 2).trans rfl
      have c3 := (blk_cell B 3).trans rfl
      have c4 := (blk_cell B 4).trans rfl
      have c5 := (blk_cell B 5).trans rfl
      have c6 := (blk_cell B 6).trans rfl
      have c7 := (blk_cell B 7).trans rfl
      have c8 := (blk_cell B 8).trans rfl
      clear B
      go_simp
    rotate_left
    · simp only [Act.put, List.setIfInBounds_toArray, List.set_cons_zero, List.set_cons_succ, i64_w, i32_w]
      rfl
    refine take_ (i := 2) (N := some 52) (v := .agg #[.int .i64 x.r0, .int .i64 x.r1, .int .i64 x.r2, .int .i64 x.r3, .int .i64 x.r4, .int .i64 x.r5, .int .i64 x.r6, .int .i64 x.r7, .int .i64 x.pc]) (a' := ?_) #[true, false, true, false, false, false, false, false, false, false, false, false, false, false, false, false, false, false, false, false, false, false, false] rfl rfl (by kernel_rfl) (fun _ _ _ h => h) (Or.inl ⟨by rfl, ?_⟩) hHeld ?_ ?_
    · intro w' hS
      have B := hS.2
      clear hHeld hS
      have c0 := (blk_cell B 0).trans rfl
      have c1 := (blk_cell B 1).trans rfl
      have c2 := (blk_cell B 2).trans rfl
      have c3 := (blk_cell B 3).trans rfl
      have c4 := (blk_cell B 4).trans rfl
      have c5 := (blk_cell B 5).trans rfl
      have c6 := (blk_cell B 6).trans rfl
      have c7 := (blk_cell B 7).trans rfl
      have c8 := (blk_cell B 8).trans rfl
      clear B
      go_simp
    rotate_left
    · simp only [Act.put, List.setIfInBounds_toArray, List.set_cons_zero, List.set_cons_succ, i64_w, i32_w]
      rfl
    refine one_ (i := 1) (N := some 51) #[true, true, true, false, false, false, false, false, false, false, false, false, false, false, false, false, false, false, false, false, false, false, false] rfl rfl (by kernel_rfl) (by decide) (fun K hK => ?_)
    refine goes_ Try.func11 (by kernel_rfl) rfl #[.agg #[.int .u32 x.r0, .int .u32 x.r1, .int .u32 x.r2, .int .u32 x.r3, .int .u32 x.r4, .int .u32 x.r5, .int .u32 x.r6, .int .u32 x.r7, .int .i64 x.pc]] (by rfl) rfl rfl (by (try simp only [List.map_toArray, List.map_cons, List.map_nil]); first | done | rfl) ?_
    refine (toRef_calls x HX.out _).mono ?_
    rintro e w9 ⟨rfl, hb⟩
    refine ⟨_, rfl, ?_⟩
    have n_B0 := Aside0.mk (blk_below B0.out hb)
    have n_B1 := Aside0.mk (blk_below B1.out hb)
    have n_B8 := Aside0.mk (blk_below B8.out hb)
    have n_BG := Aside0.mk (blk_below BG.out hb)
    have n_HM := Aside0.mk (Kd.R_step HM.out (fun k _ hk => hb.block k hk))
    have n_HM6 := Aside0.mk (Kd.R_step HM6.out (fun k _ hk => hb.block k hk))
    have n_HB := Aside0.mk (below_step HB.out hb)
    clear B0 B1 B8 BG HM HM6 HB hb hHeld
    have B0 := n_B0
    have B1 := n_B1
    have B8 := n_B8
    have BG := n_BG
    have HM := n_HM
    have HM6 := n_HM6
    have HB := n_HB
    clear n_B0 n_B1 n_B8 n_BG n_HM n_HM6 n_HB
    refine hK.out _ _ ⟨B8.out, BG.out⟩ (fun hHeld => ?_)
    clear hK K
    refine norm_ (a' := ?_) ?_ ?_
    rotate_left
    · show Act.put _ (some 51) _ = _
      simp only [Act.put, List.setIfInBounds_toArray, List.set_cons_zero, List.set_cons_succ, i64_w, i32_w]
      rfl
    refine pure_ (i := 3) (N := some 53) (v := .bool true) (a' := ?_) #[true, true, true, true, false, false, false, false, false, false, false, false, false, false, false, false, false, false, false, false, false, false, false] rfl rfl (by kernel_rfl) (fun _ _ _ h => h) (Or.inl ⟨by rfl, ?_⟩) ?_ ?_
    · intro w'
      have e1 := eqg34 (.tmp 51) (.tmp 52) x x w'
      have e2 := eqo34 x w'
      try rw [show Value.agg #[.int .i64 x.r0, .int .i64 x.r1, .int .i64 x.r2, .int .i64 x.r3, .int .i64 x.r4, .int .i64 x.r5, .int .i64 x.r6, .int .i64 x.r7, .int .i64 x.pc] = x.ref from rfl]
      go_simp
    rotate_left
    · simp only [Act.put, List.setIfInBounds_toArray, List.set_cons_zero, List.set_cons_succ, i64_w, i32_w]
      rfl
    refine pure_ (i := 4) (N := some 54) (v := ?_) (a' := ?_) #[true, true, true, true, true, false, false, false, false, false, false, false, false, false, false, false, false, false, false, false, false, false, false] rfl rfl (by kernel_rfl) (fun _ _ _ h => h) (Or.inl ⟨by rfl, ?_⟩) ?_ ?_
    rotate_left
    · intro w'
      go_simp
      with_reducible rfl
    rotate_left
    · simp only [Act.put, List.setIfInBounds_toArray, List.set_cons_zero, List.set_cons_succ, i64_w, i32_w]
      rfl
    refine pure_ (i := 5) (N := some 55) (v := ?_) (a' := ?_) #[true, true, true, true, true, true, false, false, false, false, false, false, false, false, false, false, false, false, false, false, false, false, false] rfl rfl (by kernel_rfl) (fun _ _ _ h => h) (Or.inl ⟨by rfl, ?_⟩) ?_ ?_
    rotate_left
    · intro w'
      go_simp
      with_reducible rfl
    rotate_left
    · simp only [Act.put, List.setIfInBounds_toArray, List.set_cons_zero, List.set_cons_succ, i64_w, i32_w]
      rfl
    refine pure_ (i := 6) (N := some 56) (v := ?_) (a' := ?_) #[true, true, true, true, true, true, true, false, false, false, false, false, false, false, false, false, false, false, false, false, false, false, false] rfl rfl (by kernel_rfl) (fun _ _ _ h => h) (Or.inl ⟨by rfl, ?_⟩) ?_ ?_
    rotate_left
    · intro w'
      go_simp
      with_reducible rfl
    rotate_left
    · simp only [Act.put, List.setIfInBounds_toArray, List.set_cons_zero, List.set_cons_succ, i64_w, i32_w]
      rfl
    refine one_ (i := 7) (N := some 57) #[true, true, true, true, true, true, true, true, false, false, false, false, false, false, false, false, false, false, false, false, false, false, false] rfl rfl (by kernel_rfl) (by decide) (fun K hK => ?_)
    refine goes_ Try.func18 (by kernel_rfl) rfl #[.slice A3 ms.length cap3, .slice A6 ms.length cap6] (by rfl) rfl rfl (by (try simp only [List.map_toArray, List.map_cons, List.map_nil]); first | done | rfl) ?_
    refine (ints_calls A3 cap3 A6 cap6 ms _ (Kd.R_reads' HM.out).2.2 HK3.out (Kd.R_reads' HM6.out).2.2 HK6.out).mono ?_
    rintro e w9 ⟨rfl, hb⟩
    refine ⟨_, rfl, ?_⟩
    have n_B0 := Aside0.mk (blk_below B0.out hb)
    have n_B1 := Aside0.mk (blk_below B1.out hb)
    have n_B8 := Aside0.mk (blk_below B8.out hb)
    have n_BG := Aside0.mk (blk_below BG.out hb)
    have n_HM := Aside0.mk (Kd.R_step HM.out (fun k _ hk => hb.block k hk))
    have n_HM6 := Aside0.mk (Kd.R_step HM6.out (fun k _ hk => hb.block k hk))
    have n_HB := Aside0.mk (below_step HB.out hb)
    clear B0 B1 B8 BG HM HM6 HB hb hHeld
    have B0 := n_B0
    have B1 := n_B1
    have B8 := n_B8
    have BG := n_BG
    have HM := n_HM
    have HM6 := n_HM6
    have HB := n_HB
    clear n_B0 n_B1 n_B8 n_BG n_HM n_HM6 n_HB
    refine hK.out _ _ ⟨B8.out, BG.out⟩ (fun hHeld => ?_)
    clear hK K
    refine norm_ (a' := ?_) ?_ ?_
    rotate_left
    · show Act.put _ (some 57) _ = _
      simp only [Act.put, List.setIfInBounds_toArray, List.set_cons_zero, List.set_cons_succ, i64_w, i32_w]
      rfl
    refine pure_ (i := 8) (N := some 58) (v := ?_) (a' := ?_) #[true, true, true, true, true, true, true, true, true, false, false, false, false, false, false, false, false, false, false, false, false, false, false] rfl rfl (by kernel_rfl) (fun _ _ _ h => h) (Or.inl ⟨by rfl, ?_⟩) ?_ ?_
    rotate_left
    · intro w'
      go_simp
      with_reducible rfl
    rotate_left
    · simp only [Act.put, List.setIfInBounds_toArray, List.set_cons_zero, List.set_cons_succ, i64_w, i32_w]
      rfl
    refine pure_ (i := 9) (N := some 59) (v := ?_) (a' := ?_) #[true, true, true, true, true, true, true, true, true, true, false, false, false, false, false, false, false, false, false, false, false, false, false] rfl rfl (by kernel_rfl) (fun _ _ _ h => h) (Or.inl ⟨by rfl, ?_⟩) ?_ ?_
    rotate_left
    · intro w'
      go_simp
      with_reducible rfl
    rotate_left
    · simp only [Act.put, List.setIfInBounds_toArray, List.set_cons_zero, List.set_cons_succ, i64_w, i32_w]
      rfl
    refine pure_ (i := 10) (N := some 60) (v := ?_) (a' := ?_) #[true, true, true, true, true, true, true, true, true, true, true, false, false, false, false, false, false, false, false, false, false, false, false] rfl rfl (by kernel_rfl) (fun _ _ _ h => h) (Or.inl ⟨by rfl, ?_⟩) ?_ ?_
    rotate_left
    · intro w'
      go_simp
      with_reducible rfl
    rotate_left
    · simp only [Act.put, List.setIfInBounds_toArray, List.set_cons_zero, List.set_cons_succ, i64_w, i32_w]
      rfl
    refine pure_ (i := 11) (N := some 61) (v := ?_) (a' := ?_) #[true, true, true, true, true, true, true, true, true, true, true, true, false, false, false, false, false, false, false, false, false, false, false] rfl rfl (by kernel_rfl) (fun _ _ _ h => h) (Or.inl ⟨by rfl, ?_⟩) ?_ ?_
    rotate_left
    · intro w'
      go_simp
      with_reducible rfl
    rotate_left
    · simp only [Act.put, List.setIfInBounds_toArray, List.set_cons_zero, List.set_cons_succ, i64_w, i32_w]
      rfl
    refine pure_ (i := 12) (N := some 62) (v := ?_) (a' := ?_) #[true, true, true, true, true, true, true, true, true, true, true, true, true, false, false, false, false, false, false, false, false, false, false] rfl rfl (by kernel_rfl) (fun _ _ _ h => h) (Or.inl ⟨by rfl, ?_⟩) ?_ ?_
    rotate_left
    · intro w'
      go_simp
      with_reducible rfl
    rotate_left
    · simp only [Act.put, List.setIfInBounds_toArray, List.set_cons_zero, List.set_cons_succ, i64_w, i32_w]
      rfl
    refine pure_ (i := 13) (N := some 63) (v := ?_) (a' := ?_) #[true, true, true, true, true, true, true, true, true, true, true, true, true, true, false, false, false, false, false, false, false, false, false] rfl rfl (by kernel_rfl) (fun _ _ _ h => h) (Or.inl ⟨by rfl, ?_⟩) ?_ ?_
    rotate_left
    · intro w'
      go_simp
      with_reducible rfl
    rotate_left
    · simp only [Act.put, List.setIfInBounds_toArray, List.set_cons_zero, List.set_cons_succ, i64_w, i32_w]
      rfl
    refine pure_ (i := 14) (N := some 64) (v := ?_) (a' := ?_) #[true, true, true, true, true, true, true, true, true, true, true, true, true, true, true, false, false, false, false, false, false, false, false] rfl rfl (by kernel_rfl) (fun _ _ _ h => h) (Or.inl ⟨by rfl, ?_⟩) ?_ ?_
    rotate_left
    · intro w'
      go_simp
      with_reducible rfl
    rotate_left
    · simp only [Act.put, List.setIfInBounds_toArray, List.set_cons_zero, List.set_cons_succ, i64_w, i32_w]
      rfl
    refine pure_ (i := 15) (N := some 65) (v := ?_) (a' := ?_) #[true, true, true, true, true, true, true, true, true, true, true, true, true, true, true, true, false, false, false, false, false, false, false] rfl rfl (by kernel_rfl) (fun _ _ _ h => h) (Or.inl ⟨by rfl, ?_⟩) ?_ ?_
    rotate_left
    · intro w'
      go_simp
      with_reducible rfl
    rotate_left
    · simp only [Act.put, List.setIfInBounds_toArray, List.set_cons_zero, List.set_cons_succ, i64_w, i32_w]
      rfl
    refine pure_ (i := 16) (N := some 66) (v := ?_) (a' := ?_) #[true, true, true, true, true, true, true, true, true, true, true, true, true, true, true, true, true, false, false, false, false, false, false] rfl rfl (by kernel_rfl) (fun _ _ _ h => h) (Or.inl ⟨by rfl, ?_⟩) ?_ ?_
    rotate_left
    · intro w'
      go_simp
      with_reducible rfl
    rotate_left
    · simp only [Act.put, List.setIfInBounds_toArray, List.set_cons_zero, List.set_cons_succ, i64_w, i32_w]
      rfl
    refine pure_ (i := 17) (N := some 67) (v := ?_) (a' := ?_) #[true, true, true, true, true, true, true, true, true, true, true, true, true, true, true, true, true, true, false, false, false, false, false] rfl rfl (by kernel_rfl) (fun _ _ _ h => h) (Or.inl ⟨by rfl, ?_⟩) ?_ ?_
    rotate_left
    · intro w'
      go_simp
      with_reducible rfl
    rotate_left
    · simp only [Act.put, List.setIfInBounds_toArray, List.set_cons_zero, List.set_cons_succ, i64_w, i32_w]
      rfl
    refine pure_ (i := 18) (N := some 68) (v := ?_) (a' := ?_) #[true, true, true, true, true, true, true, true, true, true, true, true, true, true, true, true, true, true, true, false, false, false, false] rfl rfl (by kernel_rfl) (fun _ _ _ h => h) (Or.inl ⟨by rfl, ?_⟩) ?_ ?_
    rotate_left
    · intro w'
      go_simp
      with_reducible rfl
    rotate_left
    · simp only [Act.put, List.setIfInBounds_toArray, List.set_cons_zero, List.set_cons_succ, i64_w, i32_w]
      rfl
    refine pure_ (i := 19) (N := some 69) (v := ?_) (a' := ?_) #[true, true, true, true, true, true, true, true, true, true, true, true, true, true, true, true, true, true, true, true, false, false, false] rfl rfl (by kernel_rfl) (fun _ _ _ h => h) (Or.inl ⟨by rfl, ?_⟩) ?_ ?_
    rotate_left
    · intro w'
      go_simp
      with_reducible rfl
    rotate_left
    · simp only [Act.put, List.setIfInBounds_toArray, List.set_cons_zero, List.set_cons_succ, i64_w, i32_w]
      rfl
    refine one_ (i := 20) (N := some 70) #[true, true, true, true, true, true, true, true, true, true, true, true, true, true, true, true, true, true, true, true, true, false, false] rfl rfl (by kernel_rfl) (by decide) (fun K hK => ?_)
    refine goes_ Try.func10 (by kernel_rfl) rfl #[] (by rfl) rfl rfl (by (try simp only [List.map_toArray, List.map_cons, List.map_nil]); first | done | rfl) ?_
    refine (awake_calls _).mono ?_
    rintro e w9 ⟨rfl, hb⟩
    refine ⟨_, rfl, ?_⟩
    have n_B0 := Aside0.mk (blk_below B0.out hb)
    have n_B1 := Aside0.mk (blk_below B1.out hb)
    have n_B8 := Aside0.mk (blk_below B8.out hb)
    have n_BG := Aside0.mk (blk_below BG.out hb)
    have n_HM := Aside0.mk (Kd.R_step HM.out (fun k _ hk => hb.block k hk))
    have n_HM6 := Aside0.mk (Kd.R_step HM6.out (fun k _ hk => hb.block k hk))
    have n_HB := Aside0.mk (below_step HB.out hb)
    clear B0 B1 B8 BG HM HM6 HB hb hHeld
    have B0 := n_B0
    have B1 := n_B1
    have B8 := n_B8
    have BG := n_BG
    have HM := n_HM
    have HM6 := n_HM6
    have HB := n_HB
    clear n_B0 n_B1 n_B8 n_BG n_HM n_HM6 n_HB
    refine hK.out _ _ ⟨B8.out, BG.out⟩ (fun hHeld => ?_)
    clear hK K
    refine norm_ (a' := ?_) ?_ ?_
    rotate_left
    · show Act.put _ (some 70) _ = _
      simp only [Act.put, List.setIfInBounds_toArray, List.set_cons_zero, List.set_cons_succ, i64_w, i32_w]
      rfl
    refine pure_ (i := 21) (N := some 71) (v := ?_) (a' := ?_) #[true, true, true, true, true, true, true, true, true, true, true, true, true, true, true, true, true, true, true, true, true, true, false] rfl rfl (by kernel_rfl) (fun _ _ _ h => h) (Or.inl ⟨by rfl, ?_⟩) ?_ ?_
    rotate_left
    · intro w'
      go_simp
      with_reducible rfl
    rotate_left
    · simp only [Act.put, List.setIfInBounds_toArray, List.set_cons_zero, List.set_cons_succ, i64_w, i32_w]
      rfl
    refine pure_ (i := 22) (N := some 6) (v := ?_) (a' := ?_) #[true, true, true, true, true, true, true, true, true, true, true, true, true, true, true, true, true, true, true, true, true, true, true] rfl rfl (by kernel_rfl) (fun _ _ _ h => h) (Or.inl ⟨by rfl, ?_⟩) ?_ ?_
    rotate_left
    · intro w'
      go_simp
      with_reducible rfl
    rotate_left
    · simp only [Act.put, List.setIfInBounds_toArray, List.set_cons_zero, List.set_cons_succ, i64_w, i32_w]
      rfl
    refine done_ (by kernel_rfl) ?_
    go_wp2
    go_ret
    exact ⟨rfl, HB.out⟩
end Go.Proofs.Ytobjjmdaleoblaa.Co
