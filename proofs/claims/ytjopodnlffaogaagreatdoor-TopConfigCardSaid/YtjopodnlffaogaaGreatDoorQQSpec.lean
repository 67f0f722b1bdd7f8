/- A part of the proof of TopConfig: TpQSpec. -/
import Derived.Test.YtjopodnlffaogaaGreatDoorQL3
section
namespace Go.Proofs.YtjopodnlffaogaaGreatDoor.Tp
open Go.RowKit Go.Proofs.YtjopodnlffaogaaGreatDoorW.PrintWords Go.Proofs.YtjopodnlffaogaaGreatDoorW.PrintLast Go.Proofs.YtjopodnlffaogaaGreatDoorW.PrintMore
attribute [local go_sem] max2_int min2_int max_two min_two max_three min_three max_four min_four
set_option linter.unusedVariables false
set_option linter.unusedSimpArgs false
theorem Keep.mono {B B' : Nat} {w w1 : World} (h : Keep B' w w1) (hB : B' ≤ B) : Keep B w w1 := fun q o hq ho => h q o (by omega) ho
theorem SpecIs.lower {B B' : Nat} {w' : World} {v : Value} {l : List Ins} {lo un : Int} {szs xs : List Int} {m : Int} {r7 : List Int} (h : SpecIs B w' v l lo un szs xs m r7) (hB : B' ≤ B) : SpecIs B' w' v l lo un szs xs m r7 := by
  obtain ⟨AL, AS, AI, AR, cL, cS, cI, cR, h1, h2, h3, h4, h5, h6⟩ := h
  exact ⟨AL, AS, AI, AR, cL, cS, cI, cR, h1, h2, h3, h4, h5, fun W hk => h6 W (hk.mono hB)⟩
theorem qspec_end {w w3 : World} {v0 v1 v2 v3 v4 v5 v6 x0 x1 x2 x3 x4 x5 x6 : Value} {l : List Ins} {lo un : Int} {szs xs : List Int} {m : Int} {r7 : List Int}
    (m0 : w3.heap[w.heap.size + 1]? = some (.cells #[x0, x1, x2, x3, x4, x5, x6] 114 (0, 0))) (hB : Below w.heap.size w w3) (hs : SpecIs (w.heap.size + 1 + 1) w3 (.agg #[v0, v1, v2, v3, v4, v5, v6]) l lo un szs xs m r7) :
    ∃ WF, WF = set7 w3 (w.heap.size + 1) v0 v1 v2 v3 v4 v5 v6 ∧ Below w.heap.size w WF ∧ WF.heap[w.heap.size + 1]? = some (.cells #[v0, v1, v2, v3, v4, v5, v6] 114 (0, 0)) ∧ SpecIs w.heap.size WF (.agg #[v0, v1, v2, v3, v4, v5, v6]) l lo un szs xs m r7 := by
  have n2 := set7_mod w3 (w.heap.size + 1) v0 v1 v2 v3 v4 v5 v6
  refine ⟨_, rfl, below_mod hB (Nat.le_refl _) n2 (by intro q hq; omega), set7_blk m0 _ _ _ _ _ _ _, (hs.keep (fun q o hq ho => (n2.block q (blk_lt ho) (by intro h; omega)).trans ho)).lower (by omega)⟩
set_option maxHeartbeats 4000000 in
set_option maxRecDepth 100000 in
theorem qspec_mcs (H : AsmAll) (n : Nat) (sl ea sp s : Int) (w : World) (hl : LaidM w) (n1 : 1 ≤ n) (n64 : n ≤ 64) (s0 : 1 ≤ sp) (s1 : sp ≤ 1000) :
    Calls Tryz.prog 50 #[.agg #[.int .i64 5, .int .i64 (n : Int), .int .i64 sl, .int .i64 ea, .int .i64 sp, .int .u32 s]] w fun e w' => ∃ v, e = .returned (.tuple #[v, .int .i64 0]) ∧ Below w.heap.size w w' ∧ SpecIs w.heap.size w' v mcsL 0 13 [1, n, n] (List.replicate (1 + 2 * n) 0) 0 (List.replicate n 0) := by
  have e0 : decide (sp < 1) = false := decide_eq_false (by omega)
  have e1 : decide (1000 < sp) = false := decide_eq_false (by omega)
  have P := Aside0.mk (fun (W : World) (hW : LaidM W) => mcsSpec_calls mcsL 0 13 H.mcs n W hW n1 n64)
  have HL := Aside0.mk hl
  have C1 := Aside0.mk (show ((w.alloc (.cells #[.int .i64 5, .int .i64 (n : Int), .int .i64 sl, .int .i64 ea, .int .i64 sp, .int .u32 s] 24)).alloc (.cells #[.slice none 0 0, .int .i64 0, .int .i64 0, .slice none 0 0, .slice none 0 0, .int .i64 0, .slice none 0 0] 114)).heap[w.heap.size + 1]? = some (.cells #[.slice none 0 0, .int .i64 0, .int .i64 0, .slice none 0 0, .slice none 0 0, .int .i64 0, .slice none 0 0] 114 (0, 0)) from by
    have := blk_new (w.alloc (.cells #[.int .i64 5, .int .i64 (n : Int), .int .i64 sl, .int .i64 ea, .int .i64 sp, .int .u32 s] 24)) (.cells #[.slice none 0 0, .int .i64 0, .int .i64 0, .slice none 0 0, .slice none 0 0, .int .i64 0, .slice none 0 0] 114)
    simpa using this)
  have HB0 := Aside0.mk (below_alloc (below_alloc (Below.refl w.heap.size w) (.cells #[.int .i64 5, .int .i64 (n : Int), .int .i64 sl, .int .i64 ea, .int .i64 sp, .int .u32 s] 24)) (.cells #[.slice none 0 0, .int .i64 0, .int .i64 0, .slice none 0 0, .slice none 0 0, .int .i64 0, .slice none 0 0] 114))
  clear H s0 s1 hl
  go_enter Tryz.func50, Tryz.ntmps50
  go_wp2_with (go_at_call 109; refine (P.out _ (HL.out.below HB0.out)).mono ?_; rintro e w3 ⟨v, rfl, hb, hs⟩; obtain ⟨AL, AS, AI, AR, cL, cS, cI, cR, rfl, hrest⟩ := hs; have HS := Aside0.mk (show SpecIs _ w3 _ mcsL 0 13 [1, n, n] (List.replicate (1 + 2 * n) 0) 0 (List.replicate n 0) from ⟨AL, AS, AI, AR, cL, cS, cI, cR, rfl, hrest⟩); have m0 := Aside0.mk (blk_below C1.out hb); have HB := Aside0.mk (below_step HB0.out hb); clear hb hrest C1 HB0 P; obtain ⟨p0, q0, p1, q1, p2, q2, p3, q3, p4, q4, p5, q5, p6, q6⟩ := both7 m0.out)
  clear p0 q0 p1 q1 p2 q2 p3 q3 p4 q4 p5 q5 p6 q6
  simp only [World.size_alloc] at HS
  obtain ⟨WF, hWF, h1, h2, h3⟩ := qspec_end m0.out HB.out HS.out
  simp only [List.length_replicate, List.length_set, List.length_cons, List.length_nil, upTo_length, Nat.zero_add, Nat.reduceAdd] at hWF h2 h3
  change bodyPost _ _ _ _ _ (set7 w3 (w.heap.size + 1) _ _ _ _ _ _ _)
  rw [← hWF]
  clear hWF
  obtain ⟨r0, r1, r2, r3, r4, r5, r6⟩ := cells7 h2
  exact bodyPost_ret (by simp [results, Tryz.results50, go_sem, *]) rfl ⟨_, rfl, h1, h3⟩
set_option maxHeartbeats 4000000 in
set_option maxRecDepth 100000 in
theorem qspec_graunke (H : AsmAll) (n : Nat) (sl ea sp s : Int) (w : World) (hl : LaidM w) (n1 : 1 ≤ n) (n64 : n ≤ 64) (s0 : 1 ≤ sp) (s1 : sp ≤ 1000) :
    Calls Tryz.prog 50 #[.agg #[.int .i64 3, .int .i64 (n : Int), .int .i64 sl, .int .i64 ea, .int .i64 sp, .int .u32 s]] w fun e w' => ∃ v, e = .returned (.tuple #[v, .int .i64 0]) ∧ Below w.heap.size w w' ∧ SpecIs w.heap.size w' v graunkeL 0 11 [1, ((n + 1 : Nat) : Int)] (((List.replicate (n + 2) 0).set 0 (2 * (n : Int))).set (n + 1) 1) 0 (List.replicate n 0) := by
  have e0 : decide (sp < 1) = false := decide_eq_false (by omega)
  have e1 : decide (1000 < sp) = false := decide_eq_false (by omega)
  have P := Aside0.mk (fun (W : World) (hW : LaidM W) => graunkeSpec_calls graunkeL 0 11 H.graunke n W hW n1 n64)
  have HL := Aside0.mk hl
  have C1 := Aside0.mk (show ((w.alloc (.cells #[.int .i64 3, .int .i64 (n : Int), .int .i64 sl, .int .i64 ea, .int .i64 sp, .int .u32 s] 24)).alloc (.cells #[.slice none 0 0, .int .i64 0, .int .i64 0, .slice none 0 0, .slice none 0 0, .int .i64 0, .slice none 0 0] 114)).heap[w.heap.size + 1]? = some (.cells #[.slice none 0 0, .int .i64 0, .int .i64 0, .slice none 0 0, .slice none 0 0, .int .i64 0, .slice none 0 0] 114 (0, 0)) from by
    have := blk_new (w.alloc (.cells #[.int .i64 3, .int .i64 (n : Int), .int .i64 sl, .int .i64 ea, .int .i64 sp, .int .u32 s] 24)) (.cells #[.slice none 0 0, .int .i64 0, .int .i64 0, .slice none 0 0, .slice none 0 0, .int .i64 0, .slice none 0 0] 114)
    simpa using this)
  have HB0 := Aside0.mk (below_alloc (below_alloc (Below.refl w.heap.size w) (.cells #[.int .i64 3, .int .i64 (n : Int), .int .i64 sl, .int .i64 ea, .int .i64 sp, .int .u32 s] 24)) (.cells #[.slice none 0 0, .int .i64 0, .int .i64 0, .slice none 0 0, .slice none 0 0, .int .i64 0, .slice none 0 0] 114))
  clear H s0 s1 hl
  go_enter Tryz.func50, Tryz.ntmps50
  go_wp2_with (go_at_call 107; refine (P.out _ (HL.out.below HB0.out)).mono ?_; rintro e w3 ⟨v, rfl, hb, hs⟩; obtain ⟨AL, AS, AI, AR, cL, cS, cI, cR, rfl, hrest⟩ := hs; have HS := Aside0.mk (show SpecIs _ w3 _ graunkeL 0 11 [1, ((n + 1 : Nat) : Int)] (((List.replicate (n + 2) 0).set 0 (2 * (n : Int))).set (n + 1) 1) 0 (List.replicate n 0) from ⟨AL, AS, AI, AR, cL, cS, cI, cR, rfl, hrest⟩); have m0 := Aside0.mk (blk_below C1.out hb); have HB := Aside0.mk (below_step HB0.out hb); clear hb hrest C1 HB0 P; obtain ⟨p0, q0, p1, q1, p2, q2, p3, q3, p4, q4, p5, q5, p6, q6⟩ := both7 m0.out)
  clear p0 q0 p1 q1 p2 q2 p3 q3 p4 q4 p5 q5 p6 q6
  simp only [World.size_alloc] at HS
  obtain ⟨WF, hWF, h1, h2, h3⟩ := qspec_end m0.out HB.out HS.out
  simp only [List.length_replicate, List.length_set, List.length_cons, List.length_nil, upTo_length, Nat.zero_add, Nat.reduceAdd] at hWF h2 h3
  change bodyPost _ _ _ _ _ (set7 w3 (w.heap.size + 1) _ _ _ _ _ _ _)
  rw [← hWF]
  clear hWF
  obtain ⟨r0, r1, r2, r3, r4, r5, r6⟩ := cells7 h2
  exact bodyPost_ret (by simp [results, Tryz.results50, go_sem, *]) rfl ⟨_, rfl, h1, h3⟩
set_option maxHeartbeats 4000000 in
set_option maxRecDepth 100000 in
theorem qspec_clh (H : AsmAll) (n : Nat) (sl ea sp s : Int) (w : World) (hl : LaidM w) (n1 : 1 ≤ n) (n64 : n ≤ 64) (s0 : 1 ≤ sp) (s1 : sp ≤ 1000) :
    Calls Tryz.prog 50 #[.agg #[.int .i64 4, .int .i64 (n : Int), .int .i64 sl, .int .i64 ea, .int .i64 sp, .int .u32 s]] w fun e w' => ∃ v, e = .returned (.tuple #[v, .int .i64 0]) ∧ Below w.heap.size w w' ∧ SpecIs w.heap.size w' v clhL 0 7 [1, ((n + 1 : Nat) : Int)] (List.replicate (n + 2) 0) 0 (upTo n) := by
  have e0 : decide (sp < 1) = false := decide_eq_false (by omega)
  have e1 : decide (1000 < sp) = false := decide_eq_false (by omega)
  have P := Aside0.mk (fun (W : World) (hW : LaidM W) => clhSpec_calls clhL 0 7 H.clh n W hW n1 n64)
  have HL := Aside0.mk hl
  have C1 := Aside0.mk (show ((w.alloc (.cells #[.int .i64 4, .int .i64 (n : Int), .int .i64 sl, .int .i64 ea, .int .i64 sp, .int .u32 s] 24)).alloc (.cells #[.slice none 0 0, .int .i64 0, .int .i64 0, .slice none 0 0, .slice none 0 0, .int .i64 0, .slice none 0 0] 114)).heap[w.heap.size + 1]? = some (.cells #[.slice none 0 0, .int .i64 0, .int .i64 0, .slice none 0 0, .slice none 0 0, .int .i64 0, .slice none 0 0] 114 (0, 0)) from by
    have := blk_new (w.alloc (.cells #[.int .i64 4, .int .i64 (n : Int), .int .i64 sl, .int .i64 ea, .int .i64 sp, .int .u32 s] 24)) (.cells #[.slice none 0 0, .int .i64 0, .int .i64 0, .slice none 0 0, .slice none 0 0, .int .i64 0, .slice none 0 0] 114)
    simpa using this)
  have HB0 := Aside0.mk (below_alloc (below_alloc (Below.refl w.heap.size w) (.cells #[.int .i64 4, .int .i64 (n : Int), .int .i64 sl, .int .i64 ea, .int .i64 sp, .int .u32 s] 24)) (.cells #[.slice none 0 0, .int .i64 0, .int .i64 0, .slice none 0 0, .slice none 0 0, .int .i64 0, .slice none 0 0] 114))
  clear H s0 s1 hl
  go_enter Tryz.func50, Tryz.ntmps50
  go_wp2_with (go_at_call 108; refine (P.out _ (HL.out.below HB0.out)).mono ?_; rintro e w3 ⟨v, rfl, hb, hs⟩; obtain ⟨AL, AS, AI, AR, cL, cS, cI, cR, rfl, hrest⟩ := hs; have HS := Aside0.mk (show SpecIs _ w3 _ clhL 0 7 [1, ((n + 1 : Nat) : Int)] (List.replicate (n + 2) 0) 0 (upTo n) from ⟨AL, AS, AI, AR, cL, cS, cI, cR, rfl, hrest⟩); have m0 := Aside0.mk (blk_below C1.out hb); have HB := Aside0.mk (below_step HB0.out hb); clear hb hrest C1 HB0 P; obtain ⟨p0, q0, p1, q1, p2, q2, p3, q3, p4, q4, p5, q5, p6, q6⟩ := both7 m0.out)
  clear p0 q0 p1 q1 p2 q2 p3 q3 p4 q4 p5 q5 p6 q6
  simp only [World.size_alloc] at HS
  obtain ⟨WF, hWF, h1, h2, h3⟩ := qspec_end m0.out HB.out HS.out
  simp only [List.length_replicate, List.length_set, List.length_cons, List.length_nil, upTo_length, Nat.zero_add, Nat.reduceAdd] at hWF h2 h3
  rw [upTo_length]
  change bodyPost _ _ _ _ _ (set7 w3 (w.heap.size + 1) _ _ _ _ _ _ _)
  rw [← hWF]
  clear hWF
  obtain ⟨r0, r1, r2, r3, r4, r5, r6⟩ := cells7 h2
  exact bodyPost_ret (by simp [results, Tryz.results50, go_sem, *]) rfl ⟨_, rfl, h1, h3⟩
set_option maxHeartbeats 4000000 in
set_option maxRecDepth 100000 in
theorem qspec_k42 (H : AsmAll) (n : Nat) (sl ea sp s : Int) (w : World) (hl : LaidM w) (n1 : 1 ≤ n) (n64 : n ≤ 64) (s0 : 1 ≤ sp) (s1 : sp ≤ 1000) :
    Calls Tryz.prog 50 #[.agg #[.int .i64 6, .int .i64 (n : Int), .int .i64 sl, .int .i64 ea, .int .i64 sp, .int .u32 s]] w fun e w' => ∃ v, e = .returned (.tuple #[v, .int .i64 0]) ∧ Below w.heap.size w w' ∧ SpecIs w.heap.size w' v k42L 0 30 [1, 1, n, n] (List.replicate (2 + 2 * n) 0) 0 (List.replicate n 0) := by
  have e0 : decide (sp < 1) = false := decide_eq_false (by omega)
  have e1 : decide (1000 < sp) = false := decide_eq_false (by omega)
  have P := Aside0.mk (fun (W : World) (hW : LaidM W) => k42Spec_calls k42L 0 30 H.k42 n W hW n1 n64)
  have HL := Aside0.mk hl
  have C1 := Aside0.mk (show ((w.alloc (.cells #[.int .i64 6, .int .i64 (n : Int), .int .i64 sl, .int .i64 ea, .int .i64 sp, .int .u32 s] 24)).alloc (.cells #[.slice none 0 0, .int .i64 0, .int .i64 0, .slice none 0 0, .slice none 0 0, .int .i64 0, .slice none 0 0] 114)).heap[w.heap.size + 1]? = some (.cells #[.slice none 0 0, .int .i64 0, .int .i64 0, .slice none 0 0, .slice none 0 0, .int .i64 0, .slice none 0 0] 114 (0, 0)) from by
    have := blk_new (w.alloc (.cells #[.int .i64 6, .int .i64 (n : Int), .int .i64 sl, .int .i64 ea, .int .i64 sp, .int .u32 s] 24)) (.cells #[.slice none 0 0, .int .i64 0, .int .i64 0, .slice none 0 0, .slice none 0 0, .int .i64 0, .slice none 0 0] 114)
    simpa using this)
  have HB0 := Aside0.mk (below_alloc (below_alloc (Below.refl w.heap.size w) (.cells #[.int .i64 6, .int .i64 (n : Int), .int .i64 sl, .int .i64 ea, .int .i64 sp, .int .u32 s] 24)) (.cells #[.slice none 0 0, .int .i64 0, .int .i64 0, .slice none 0 0, .slice none 0 0, .int .i64 0, .slice none 0 0] 114))
  clear H s0 s1 hl
  go_enter Tryz.func50, Tryz.ntmps50
  go_wp2_with (go_at_call 110; refine (P.out _ (HL.out.below HB0.out)).mono ?_; rintro e w3 ⟨v, rfl, hb, hs⟩; obtain ⟨AL, AS, AI, AR, cL, cS, cI, cR, rfl, hrest⟩ := hs; have HS := Aside0.mk (show SpecIs _ w3 _ k42L 0 30 [1, 1, n, n] (List.replicate (2 + 2 * n) 0) 0 (List.replicate n 0) from ⟨AL, AS, AI, AR, cL, cS, cI, cR, rfl, hrest⟩); have m0 := Aside0.mk (blk_below C1.out hb); have HB := Aside0.mk (below_step HB0.out hb); clear hb hrest C1 HB0 P; obtain ⟨p0, q0, p1, q1, p2, q2, p3, q3, p4, q4, p5, q5, p6, q6⟩ := both7 m0.out)
  clear p0 q0 p1 q1 p2 q2 p3 q3 p4 q4 p5 q5 p6 q6
  simp only [World.size_alloc] at HS
  obtain ⟨WF, hWF, h1, h2, h3⟩ := qspec_end m0.out HB.out HS.out
  simp only [List.length_replicate, List.length_set, List.length_cons, List.length_nil, upTo_length, Nat.zero_add, Nat.reduceAdd] at hWF h2 h3
  change bodyPost _ _ _ _ _ (set7 w3 (w.heap.size + 1) _ _ _ _ _ _ _)
  rw [← hWF]
  clear hWF
  obtain ⟨r0, r1, r2, r3, r4, r5, r6⟩ := cells7 h2
  exact bodyPost_ret (by simp [results, Tryz.results50, go_sem, *]) rfl ⟨_, rfl, h1, h3⟩
set_option maxHeartbeats 4000000 in
set_option maxRecDepth 100000 in
theorem qspec_ticket (H : AsmAll) (n s : Nat) (sl ea sp : Int) (w : World) (hl : LaidM w) (n1 : 1 ≤ n) (n64 : n ≤ 64) (s0 : 1 ≤ sp) (s1 : sp ≤ 1000) :
    Calls Tryz.prog 50 #[.agg #[.int .i64 1, .int .i64 (n : Int), .int .i64 sl, .int .i64 ea, .int .i64 sp, .int .u32 (s : Int)]] w fun e w' => ∃ v, e = .returned (.tuple #[v, .int .i64 0]) ∧ Below w.heap.size w w' ∧ SpecIs w.heap.size w' v ticketL 0 5 [1, 1] [(s : Int), (s : Int)] 0 (List.replicate n 0) := by
  have e0 : decide (sp < 1) = false := decide_eq_false (by omega)
  have e1 : decide (1000 < sp) = false := decide_eq_false (by omega)
  have P := Aside0.mk (fun (W : World) (hW : LaidM W) => ticketSpec_calls ticketL 0 5 H.ticket n s W hW n1 n64)
  have HL := Aside0.mk hl
  have C1 := Aside0.mk (show ((w.alloc (.cells #[.int .i64 1, .int .i64 (n : Int), .int .i64 sl, .int .i64 ea, .int .i64 sp, .int .u32 (s : Int)] 24)).alloc (.cells #[.slice none 0 0, .int .i64 0, .int .i64 0, .slice none 0 0, .slice none 0 0, .int .i64 0, .slice none 0 0] 114)).heap[w.heap.size + 1]? = some (.cells #[.slice none 0 0, .int .i64 0, .int .i64 0, .slice none 0 0, .slice none 0 0, .int .i64 0, .slice none 0 0] 114 (0, 0)) from by
    have := blk_new (w.alloc (.cells #[.int .i64 1, .int .i64 (n : Int), .int .i64 sl, .int .i64 ea, .int .i64 sp, .int .u32 (s : Int)] 24)) (.cells #[.slice none 0 0, .int .i64 0, .int .i64 0, .slice none 0 0, .slice none 0 0, .int .i64 0, .slice none 0 0] 114)
    simpa using this)
  have HB0 := Aside0.mk (below_alloc (below_alloc (Below.refl w.heap.size w) (.cells #[.int .i64 1, .int .i64 (n : Int), .int .i64 sl, .int .i64 ea, .int .i64 sp, .int .u32 (s : Int)] 24)) (.cells #[.slice none 0 0, .int .i64 0, .int .i64 0, .slice none 0 0, .slice none 0 0, .int .i64 0, .slice none 0 0] 114))
  clear H s0 s1 hl
  go_enter Tryz.func50, Tryz.ntmps50
  go_wp2_with (go_at_call 105; refine (P.out _ (HL.out.below HB0.out)).mono ?_; rintro e w3 ⟨v, rfl, hb, hs⟩; obtain ⟨AL, AS, AI, AR, cL, cS, cI, cR, rfl, hrest⟩ := hs; have HS := Aside0.mk (show SpecIs _ w3 _ ticketL 0 5 [1, 1] [(s : Int), (s : Int)] 0 (List.replicate n 0) from ⟨AL, AS, AI, AR, cL, cS, cI, cR, rfl, hrest⟩); have m0 := Aside0.mk (blk_below C1.out hb); have HB := Aside0.mk (below_step HB0.out hb); clear hb hrest C1 HB0 P; obtain ⟨p0, q0, p1, q1, p2, q2, p3, q3, p4, q4, p5, q5, p6, q6⟩ := both7 m0.out)
  clear p0 q0 p1 q1 p2 q2 p3 q3 p4 q4 p5 q5 p6 q6
  simp only [World.size_alloc] at HS
  obtain ⟨WF, hWF, h1, h2, h3⟩ := qspec_end m0.out HB.out HS.out
  simp only [List.length_replicate, List.length_set, List.length_cons, List.length_nil, upTo_length, Nat.zero_add, Nat.reduceAdd] at hWF h2 h3
  change bodyPost _ _ _ _ _ (set7 w3 (w.heap.size + 1) _ _ _ _ _ _ _)
  rw [← hWF]
  clear hWF
  obtain ⟨r0, r1, r2, r3, r4, r5, r6⟩ := cells7 h2
  exact bodyPost_ret (by simp [results, Tryz.results50, go_sem, *]) rfl ⟨_, rfl, h1, h3⟩
set_option maxHeartbeats 4000000 in
set_option maxRecDepth 100000 in
theorem qspec_clhtry (H : AsmAll) (n ea : Nat) (sl sp s : Int) (w : World) (hl : LaidM w) (n1 : 1 ≤ n) (n64 : n ≤ 64) (e2n : 2 ≤ ea) (e8 : ea ≤ 8) (s0 : 1 ≤ sp) (s1 : sp ≤ 1000) :
    Calls Tryz.prog 50 #[.agg #[.int .i64 7, .int .i64 (n : Int), .int .i64 sl, .int .i64 (ea : Int), .int .i64 sp, .int .u32 s]] w fun e w' => ∃ v, e = .returned (.tuple #[v, .int .i64 0]) ∧ Below w.heap.size w w' ∧ SpecIs w.heap.size w' v clhtryL 0 24 [1, ((n * ea + 1 : Nat) : Int)] ((List.replicate (n * ea + 2) 0).set 1 1) ea (List.replicate n 0) := by
  have e0 : decide (sp < 1) = false := decide_eq_false (by omega)
  have e1 : decide (1000 < sp) = false := decide_eq_false (by omega)
  have P := Aside0.mk (fun (W : World) (hW : LaidM W) => clhtrySpec_calls clhtryL 0 24 H.clhtry n ea W hW n1 n64 e2n e8)
  have HL := Aside0.mk hl
  have C1 := Aside0.mk (show ((w.alloc (.cells #[.int .i64 7, .int .i64 (n : Int), .int .i64 sl, .int .i64 (ea : Int), .int .i64 sp, .int .u32 s] 24)).alloc (.cells #[.slice none 0 0, .int .i64 0, .int .i64 0, .slice none 0 0, .slice none 0 0, .int .i64 0, .slice none 0 0] 114)).heap[w.heap.size + 1]? = some (.cells #[.slice none 0 0, .int .i64 0, .int .i64 0, .slice none 0 0, .slice none 0 0, .int .i64 0, .slice none 0 0] 114 (0, 0)) from by
    have := blk_new (w.alloc (.cells #[.int .i64 7, .int .i64 (n : Int), .int .i64 sl, .int .i64 (ea : Int), .int .i64 sp, .int .u32 s] 24)) (.cells #[.slice none 0 0, .int .i64 0, .int .i64 0, .slice none 0 0, .slice none 0 0, .int .i64 0, .slice none 0 0] 114)
    simpa using this)
  have HB0 := Aside0.mk (below_alloc (below_alloc (Below.refl w.heap.size w) (.cells #[.int .i64 7, .int .i64 (n : Int), .int .i64 sl, .int .i64 (ea : Int), .int .i64 sp, .int .u32 s] 24)) (.cells #[.slice none 0 0, .int .i64 0, .int .i64 0, .slice none 0 0, .slice none 0 0, .int .i64 0, .slice none 0 0] 114))
  clear H s0 s1 hl
  go_enter Tryz.func50, Tryz.ntmps50
  go_wp2_with (go_at_call 111; refine (P.out _ (HL.out.below HB0.out)).mono ?_; rintro e w3 ⟨v, rfl, hb, hs⟩; obtain ⟨AL, AS, AI, AR, cL, cS, cI, cR, rfl, hrest⟩ := hs; have HS := Aside0.mk (show SpecIs _ w3 _ clhtryL 0 24 [1, ((n * ea + 1 : Nat) : Int)] ((List.replicate (n * ea + 2) 0).set 1 1) ea (List.replicate n 0) from ⟨AL, AS, AI, AR, cL, cS, cI, cR, rfl, hrest⟩); have m0 := Aside0.mk (blk_below C1.out hb); have HB := Aside0.mk (below_step HB0.out hb); clear hb hrest C1 HB0 P; obtain ⟨p0, q0, p1, q1, p2, q2, p3, q3, p4, q4, p5, q5, p6, q6⟩ := both7 m0.out)
  clear p0 q0 p1 q1 p2 q2 p3 q3 p4 q4 p5 q5 p6 q6
  simp only [World.size_alloc] at HS
  obtain ⟨WF, hWF, h1, h2, h3⟩ := qspec_end m0.out HB.out HS.out
  simp only [List.length_replicate, List.length_set, List.length_cons, List.length_nil, upTo_length, Nat.zero_add, Nat.reduceAdd] at hWF h2 h3
  change bodyPost _ _ _ _ _ (set7 w3 (w.heap.size + 1) _ _ _ _ _ _ _)
  rw [← hWF]
  clear hWF
  obtain ⟨r0, r1, r2, r3, r4, r5, r6⟩ := cells7 h2
  exact bodyPost_ret (by simp [results, Tryz.results50, go_sem, *]) rfl ⟨_, rfl, h1, h3⟩
set_option maxHeartbeats 4000000 in
set_option maxRecDepth 100000 in
theorem qspec_mcstry (H : AsmAll) (n ea : Nat) (sl sp s : Int) (w : World) (hl : LaidM w) (n1 : 1 ≤ n) (n64 : n ≤ 64) (e1n : 1 ≤ ea) (e8 : ea ≤ 8) (s0 : 1 ≤ sp) (s1 : sp ≤ 1000) :
    Calls Tryz.prog 50 #[.agg #[.int .i64 8, .int .i64 (n : Int), .int .i64 sl, .int .i64 (ea : Int), .int .i64 sp, .int .u32 s]] w fun e w' => ∃ v, e = .returned (.tuple #[v, .int .i64 0]) ∧ Below w.heap.size w w' ∧ SpecIs w.heap.size w' v mcstryL 0 18 [1, ((n * ea + 1 : Nat) : Int), ((n * ea + 1 : Nat) : Int)] (List.replicate (2 * n * ea + 3) 0) ea (List.replicate n 0) := by
  have e0 : decide (sp < 1) = false := decide_eq_false (by omega)
  have e1 : decide (1000 < sp) = false := decide_eq_false (by omega)
  have P := Aside0.mk (fun (W : World) (hW : LaidM W) => mcstrySpec_calls mcstryL 0 18 H.mcstry n ea W hW n1 n64 e1n e8)
  have HL := Aside0.mk hl
  have C1 := Aside0.mk (show ((w.alloc (.cells #[.int .i64 8, .int .i64 (n : Int), .int .i64 sl, .int .i64 (ea : Int), .int .i64 sp, .int .u32 s] 24)).alloc (.cells #[.slice none 0 0, .int .i64 0, .int .i64 0, .slice none 0 0, .slice none 0 0, .int .i64 0, .slice none 0 0] 114)).heap[w.heap.size + 1]? = some (.cells #[.slice none 0 0, .int .i64 0, .int .i64 0, .slice none 0 0, .slice none 0 0, .int .i64 0, .slice none 0 0] 114 (0, 0)) from by
    have := blk_new (w.alloc (.cells #[.int .i64 8, .int .i64 (n : Int), .int .i64 sl, .int .i64 (ea : Int), .int .i64 sp, .int .u32 s] 24)) (.cells #[.slice none 0 0, .int .i64 0, .int .i64 0, .slice none 0 0, .slice none 0 0, .int .i64 0, .slice none 0 0] 114)
    simpa using this)
  have HB0 := Aside0.mk (below_alloc (below_alloc (Below.refl w.heap.size w) (.cells #[.int .i64 8, .int .i64 (n : Int), .int .i64 sl, .int .i64 (ea : Int), .int .i64 sp, .int .u32 s] 24)) (.cells #[.slice none 0 0, .int .i64 0, .int .i64 0, .slice none 0 0, .slice none 0 0, .int .i64 0, .slice none 0 0] 114))
  clear H s0 s1 hl
  go_enter Tryz.func50, Tryz.ntmps50
  go_wp2_with (go_at_call 112; refine (P.out _ (HL.out.below HB0.out)).mono ?_; rintro e w3 ⟨v, rfl, hb, hs⟩; obtain ⟨AL, AS, AI, AR, cL, cS, cI, cR, rfl, hrest⟩ := hs; have HS := Aside0.mk (show SpecIs _ w3 _ mcstryL 0 18 [1, ((n * ea + 1 : Nat) : Int), ((n * ea + 1 : Nat) : Int)] (List.replicate (2 * n * ea + 3) 0) ea (List.replicate n 0) from ⟨AL, AS, AI, AR, cL, cS, cI, cR, rfl, hrest⟩); have m0 := Aside0.mk (blk_below C1.out hb); have HB := Aside0.mk (below_step HB0.out hb); clear hb hrest C1 HB0 P; obtain ⟨p0, q0, p1, q1, p2, q2, p3, q3, p4, q4, p5, q5, p6, q6⟩ := both7 m0.out)
  clear p0 q0 p1 q1 p2 q2 p3 q3 p4 q4 p5 q5 p6 q6
  simp only [World.size_alloc] at HS
  obtain ⟨WF, hWF, h1, h2, h3⟩ := qspec_end m0.out HB.out HS.out
  simp only [List.length_replicate, List.length_set, List.length_cons, List.length_nil, upTo_length, Nat.zero_add, Nat.reduceAdd] at hWF h2 h3
  change bodyPost _ _ _ _ _ (set7 w3 (w.heap.size + 1) _ _ _ _ _ _ _)
  rw [← hWF]
  clear hWF
  obtain ⟨r0, r1, r2, r3, r4, r5, r6⟩ := cells7 h2
  exact bodyPost_ret (by simp [results, Tryz.results50, go_sem, *]) rfl ⟨_, rfl, h1, h3⟩
set_option maxHeartbeats 4000000 in
set_option maxRecDepth 100000 in
theorem qspec_anderson (H : AsmAll) (n j s : Nat) (ea sp : Int) (w : World) (hl : LaidM w) (n1 : 1 ≤ n) (n64 : n ≤ 64) (hj : j ≤ 6) (hnt : n ≤ 2 ^ j) (hs : s < 4294967296) (s0 : 1 ≤ sp) (s1 : sp ≤ 1000) :
    Calls Tryz.prog 50 #[.agg #[.int .i64 2, .int .i64 (n : Int), .int .i64 ((2 ^ j : Nat) : Int), .int .i64 ea, .int .i64 sp, .int .u32 (s : Int)]] w fun e w' => ∃ v, e = .returned (.tuple #[v, .int .i64 0]) ∧ Below w.heap.size w w' ∧ SpecIs w.heap.size w' v (andersonL j) 0 8 [1, ((2 ^ j : Nat) : Int)] (((List.replicate (2 ^ j + 1) 0).set 0 (s : Int)).set (1 + s % 2 ^ j) 1) 0 (List.replicate n 0) := by
  have e0 : decide (sp < 1) = false := decide_eq_false (by omega)
  have e1 : decide (1000 < sp) = false := decide_eq_false (by omega)
  obtain ⟨txt, ha1, ha2⟩ := H.anderson j hj
  have P := Aside0.mk (fun (W : World) (hW : LaidM W) => andersonSpec_calls (andersonL j) 0 8 ha1 n j s ha2 W hW n1 n64 hj hnt hs)
  have HL := Aside0.mk hl
  have C1 := Aside0.mk (show ((w.alloc (.cells #[.int .i64 2, .int .i64 (n : Int), .int .i64 ((2 ^ j : Nat) : Int), .int .i64 ea, .int .i64 sp, .int .u32 (s : Int)] 24)).alloc (.cells #[.slice none 0 0, .int .i64 0, .int .i64 0, .slice none 0 0, .slice none 0 0, .int .i64 0, .slice none 0 0] 114)).heap[w.heap.size + 1]? = some (.cells #[.slice none 0 0, .int .i64 0, .int .i64 0, .slice none 0 0, .slice none 0 0, .int .i64 0, .slice none 0 0] 114 (0, 0)) from by
    have := blk_new (w.alloc (.cells #[.int .i64 2, .int .i64 (n : Int), .int .i64 ((2 ^ j : Nat) : Int), .int .i64 ea, .int .i64 sp, .int .u32 (s : Int)] 24)) (.cells #[.slice none 0 0, .int .i64 0, .int .i64 0, .slice none 0 0, .slice none 0 0, .int .i64 0, .slice none 0 0] 114)
    simpa using this)
  have HB0 := Aside0.mk (below_alloc (below_alloc (Below.refl w.heap.size w) (.cells #[.int .i64 2, .int .i64 (n : Int), .int .i64 ((2 ^ j : Nat) : Int), .int .i64 ea, .int .i64 sp, .int .u32 (s : Int)] 24)) (.cells #[.slice none 0 0, .int .i64 0, .int .i64 0, .slice none 0 0, .slice none 0 0, .int .i64 0, .slice none 0 0] 114))
  clear H s0 s1 hl ha1 ha2
  go_enter Tryz.func50, Tryz.ntmps50
  go_wp2_with (go_at_call 106; refine (P.out _ (HL.out.below HB0.out)).mono ?_; rintro e w3 ⟨v, rfl, hb, hs⟩; obtain ⟨AL, AS, AI, AR, cL, cS, cI, cR, rfl, hrest⟩ := hs; have HS := Aside0.mk (show SpecIs _ w3 _ (andersonL j) 0 8 [1, ((2 ^ j : Nat) : Int)] (((List.replicate (2 ^ j + 1) 0).set 0 (s : Int)).set (1 + s % 2 ^ j) 1) 0 (List.replicate n 0) from ⟨AL, AS, AI, AR, cL, cS, cI, cR, rfl, hrest⟩); have m0 := Aside0.mk (blk_below C1.out hb); have HB := Aside0.mk (below_step HB0.out hb); clear hb hrest C1 HB0 P; obtain ⟨p0, q0, p1, q1, p2, q2, p3, q3, p4, q4, p5, q5, p6, q6⟩ := both7 m0.out)
  clear p0 q0 p1 q1 p2 q2 p3 q3 p4 q4 p5 q5 p6 q6
  simp only [World.size_alloc] at HS
  obtain ⟨WF, hWF, h1, h2, h3⟩ := qspec_end m0.out HB.out HS.out
  simp only [List.length_replicate, List.length_set, List.length_cons, List.length_nil, upTo_length, Nat.zero_add, Nat.reduceAdd] at hWF h2 h3
  change bodyPost _ _ _ _ _ (set7 w3 (w.heap.size + 1) _ _ _ _ _ _ _)
  rw [← hWF]
  clear hWF
  obtain ⟨r0, r1, r2, r3, r4, r5, r6⟩ := cells7 h2
  exact bodyPost_ret (by simp [results, Tryz.results50, go_sem, *]) rfl ⟨_, rfl, h1, h3⟩
end Go.Proofs.YtjopodnlffaogaaGreatDoor.Tp
end
