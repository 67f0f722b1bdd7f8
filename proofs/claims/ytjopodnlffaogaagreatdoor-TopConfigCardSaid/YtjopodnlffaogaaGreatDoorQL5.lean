/- A part of the proof of TopConfig: TpQNew, TpRQAnd. -/
import Derived.Test.YtjopodnlffaogaaGreatDoorQQBad
import Derived.Test.YtjopodnlffaogaaGreatDoorQRQ0
import Derived.Test.YtjopodnlffaogaaGreatDoorQRSpecAnderson
section
namespace Go.Proofs.YtjopodnlffaogaaGreatDoor.Tp
open Go.RowKit Go.Proofs.YtjopodnlffaogaaGreatDoorW.PrintWords Go.Proofs.YtjopodnlffaogaaGreatDoorW.PrintLast Go.Proofs.YtjopodnlffaogaaGreatDoorW.PrintMore
attribute [local go_sem] max2_int min2_int max_two min_two max_three min_three max_four min_four
set_option linter.unusedVariables false
set_option linter.unusedSimpArgs false
structure SpcOk (p : Spc) (n : Int) : Prop where
  good : ∀ i ∈ p.l, GoodI p.l.length i
  l1 : 1 ≤ p.l.length
  l64 : p.l.length ≤ 64
  lo0 : 0 ≤ p.lo
  lo1 : p.lo < p.l.length
  un0 : 0 ≤ p.un
  un1 : p.un < p.l.length
  h8 : p.szs.length ≤ 8
  hr : ∀ s ∈ p.szs, 0 ≤ s ∧ s ≤ 4096
  hsum : psum p.szs p.szs.length = p.xs.length
  hx : p.xs.length ≤ 8192
  hm : p.m ≤ 8
  n1 : 1 ≤ p.r7.length
  n64 : p.r7.length ≤ 64
  len : (p.r7.length : Int) = n
theorem psum_all (l : List Int) : psum l l.length = l.sum := by unfold psum; rw [List.take_length]
theorem specOf_ok {c : Cfg} {p : Spc} (h : SpecOf c p) : SpcOk p c.threads := by
  cases h with
  | ticket n s sl ea sp n1 n64 =>
    refine ⟨ticketL_good, Nat.le_add_left 1 8, (show 9 ≤ 64 by decide), (show (0 : Int) ≤ 0 by decide), (show (0 : Int) < ((9 : Nat) : Int) by decide), (show (0 : Int) ≤ 5 by decide), (show (5 : Int) < ((9 : Nat) : Int) by decide), (show 2 ≤ 8 by decide), ?_, ?_, ?_, (show 0 ≤ 8 by decide), by simpa using n1, by simpa using n64, by simp⟩
    · intro y hs
      simp at hs
      subst hs; omega
    · rw [psum_all]
      simp
      try omega
    · show List.length _ ≤ 8192
      simp
      try omega
  | anderson n j s ea sp n1 n64 hj hnt hs =>
    have h1 : 2 ^ j ≤ 2 ^ 6 := Nat.pow_le_pow_right (by decide) hj
    have h2 : 1 ≤ 2 ^ j := Nat.one_le_two_pow
    refine ⟨andersonL_good j hj, Nat.le_add_left 1 13, (show 14 ≤ 64 by decide), (show (0 : Int) ≤ 0 by decide), (show (0 : Int) < ((14 : Nat) : Int) by decide), (show (0 : Int) ≤ 8 by decide), (show (8 : Int) < ((14 : Nat) : Int) by decide), (show 2 ≤ 8 by decide), ?_, ?_, ?_, (show 0 ≤ 8 by decide), by simpa using n1, by simpa using n64, by simp⟩
    · intro y hs
      generalize 2 ^ j = t at *
      simp at hs
      rcases hs with rfl | rfl <;> omega
    · rw [psum_all]
      generalize 2 ^ j = t at *
      simp
      try omega
    · show List.length _ ≤ 8192
      generalize 2 ^ j = t at *
      simp
      try omega
  | graunke n sl ea sp s n1 n64 =>
    refine ⟨graunkeL_good, Nat.le_add_left 1 16, (show 17 ≤ 64 by decide), (show (0 : Int) ≤ 0 by decide), (show (0 : Int) < ((17 : Nat) : Int) by decide), (show (0 : Int) ≤ 11 by decide), (show (11 : Int) < ((17 : Nat) : Int) by decide), (show 2 ≤ 8 by decide), ?_, ?_, ?_, (show 0 ≤ 8 by decide), by simpa using n1, by simpa using n64, by simp⟩
    · intro y hs
      simp at hs
      rcases hs with rfl | rfl <;> omega
    · rw [psum_all]
      simp
      try omega
    · show List.length _ ≤ 8192
      simp
      try omega
  | clh n sl ea sp s n1 n64 =>
    refine ⟨clhL_good, Nat.le_add_left 1 10, (show 11 ≤ 64 by decide), (show (0 : Int) ≤ 0 by decide), (show (0 : Int) < ((11 : Nat) : Int) by decide), (show (0 : Int) ≤ 7 by decide), (show (7 : Int) < ((11 : Nat) : Int) by decide), (show 2 ≤ 8 by decide), ?_, ?_, ?_, (show 0 ≤ 8 by decide), by simpa [upTo_length] using n1, by simpa [upTo_length] using n64, by simp [upTo_length]⟩
    · intro y hs
      simp at hs
      rcases hs with rfl | rfl <;> omega
    · rw [psum_all]
      simp [upTo_length]
      try omega
    · show List.length _ ≤ 8192
      simp [upTo_length]
      try omega
  | mcs n sl ea sp s n1 n64 =>
    refine ⟨mcsL_good, Nat.le_add_left 1 23, (show 24 ≤ 64 by decide), (show (0 : Int) ≤ 0 by decide), (show (0 : Int) < ((24 : Nat) : Int) by decide), (show (0 : Int) ≤ 13 by decide), (show (13 : Int) < ((24 : Nat) : Int) by decide), (show 3 ≤ 8 by decide), ?_, ?_, ?_, (show 0 ≤ 8 by decide), by simpa using n1, by simpa using n64, by simp⟩
    · intro y hs
      simp at hs
      rcases hs with rfl | rfl <;> omega
    · rw [psum_all]
      simp
      try omega
    · show List.length _ ≤ 8192
      simp
      try omega
  | k42 n sl ea sp s n1 n64 =>
    refine ⟨k42L_good, Nat.le_add_left 1 41, (show 42 ≤ 64 by decide), (show (0 : Int) ≤ 0 by decide), (show (0 : Int) < ((42 : Nat) : Int) by decide), (show (0 : Int) ≤ 30 by decide), (show (30 : Int) < ((42 : Nat) : Int) by decide), (show 4 ≤ 8 by decide), ?_, ?_, ?_, (show 0 ≤ 8 by decide), by simpa using n1, by simpa using n64, by simp⟩
    · intro y hs
      simp at hs
      rcases hs with rfl | rfl <;> omega
    · rw [psum_all]
      simp
      try omega
    · show List.length _ ≤ 8192
      simp
      try omega
  | clhtry n ea sl sp s n1 n64 e2 e8 =>
    have hp : n * ea ≤ 512 := Nat.le_trans (Nat.mul_le_mul n64 e8) (by decide)
    refine ⟨clhtryL_good, Nat.le_add_left 1 27, (show 28 ≤ 64 by decide), (show (0 : Int) ≤ 0 by decide), (show (0 : Int) < ((28 : Nat) : Int) by decide), (show (0 : Int) ≤ 24 by decide), (show (24 : Int) < ((28 : Nat) : Int) by decide), (show 2 ≤ 8 by decide), ?_, ?_, ?_, e8, by simpa using n1, by simpa using n64, by simp⟩
    · intro y hs
      generalize n * ea = t at *
      simp at hs
      rcases hs with rfl | rfl <;> omega
    · rw [psum_all]
      generalize n * ea = t at *
      simp
      try omega
    · show List.length _ ≤ 8192
      generalize n * ea = t at *
      simp
      try omega
  | mcstry n ea sl sp s n1 n64 e1 e8 =>
    have hp : n * ea ≤ 512 := Nat.le_trans (Nat.mul_le_mul n64 e8) (by decide)
    refine ⟨mcstryL_good, Nat.le_add_left 1 34, (show 35 ≤ 64 by decide), (show (0 : Int) ≤ 0 by decide), (show (0 : Int) < ((35 : Nat) : Int) by decide), (show (0 : Int) ≤ 18 by decide), (show (18 : Int) < ((35 : Nat) : Int) by decide), (show 3 ≤ 8 by decide), ?_, ?_, ?_, e8, by simpa using n1, by simpa using n64, by simp⟩
    · intro y hs
      generalize n * ea = t at *
      simp at hs
      rcases hs with rfl | rfl <;> omega
    · rw [psum_all]
      have e : 2 * n * ea = 2 * (n * ea) := Nat.mul_assoc 2 n ea
      rw [e]
      generalize n * ea = t at *
      simp
      try omega
    · show List.length _ ≤ 8192
      have e : 2 * n * ea = 2 * (n * ea) := Nat.mul_assoc 2 n ea
      rw [e]
      generalize n * ea = t at *
      simp
      try omega
theorem qspec_good (H : AsmAll) {c : Cfg} {p : Spc} (h : SpecOf c p) (s0 : 1 ≤ c.spin) (s1 : c.spin ≤ 1000) (w : World) (hl : LaidM w) : Calls Tryz.prog 50 #[.agg c.cells] w fun e w' => ∃ v, e = .returned (.tuple #[v, .int .i64 0]) ∧ Below w.heap.size w w' ∧ p.Is w.heap.size w' v := by
  cases h with
  | ticket n s sl ea sp n1 n64 => exact qspec_ticket H n s sl ea sp w hl n1 n64 s0 s1
  | anderson n j s ea sp n1 n64 hj hnt hs => exact qspec_anderson H n j s ea sp w hl n1 n64 hj hnt hs s0 s1
  | graunke n sl ea sp s n1 n64 => exact qspec_graunke H n sl ea sp s w hl n1 n64 s0 s1
  | clh n sl ea sp s n1 n64 => exact qspec_clh H n sl ea sp s w hl n1 n64 s0 s1
  | mcs n sl ea sp s n1 n64 => exact qspec_mcs H n sl ea sp s w hl n1 n64 s0 s1
  | k42 n sl ea sp s n1 n64 => exact qspec_k42 H n sl ea sp s w hl n1 n64 s0 s1
  | clhtry n ea sl sp s n1 n64 e2 e8 => exact qspec_clhtry H n ea sl sp s w hl n1 n64 e2 e8 s0 s1
  | mcstry n ea sl sp s n1 n64 e1 e8 => exact qspec_mcstry H n ea sl sp s w hl n1 n64 e1 e8 s0 s1
def LockAt (W : World) (B : Nat) (p : Spc) (be : Nat) : Prop := ∃ vl bm bc gc vs vb bp bq vr rs gk, ExecAt W B be vl p.l p.lo p.un bm bc gc vs vb p.szs p.xs bp bq p.m vr rs gk (p.r7.map cz) ∧ W.heap[bq]? = some (.map #[] 0) ∧ rs.length = p.r7.length ∧ (∀ r ∈ rs, r.first = 0 ∧ r.n = p.m)
theorem ExecAt.lower {W : World} {B B' be : Nat} {vl : Value} {l : List Ins} {lo un : Int} {bm bc gc : Nat} {vs vb : Value} {szs xs : List Int} {bp bq m : Nat} {vr : Value} {rs : List Rg} {gk : Nat} {cs : List Cr} (h : ExecAt W B be vl l lo un bm bc gc vs vb szs xs bp bq m vr rs gk cs) (hB : B' ≤ B) : ExecAt W B' be vl l lo un bm bc gc vs vb szs xs bp bq m vr rs gk cs :=
  ⟨h.blk, Kd.R_lower h.code hB, h.mem.lower hB, h.pool.lower hB, h.cores⟩
set_option maxHeartbeats 4000000 in
set_option maxRecDepth 100000 in
theorem qnew_good (H : AsmAll) {c : Cfg} {p : Spc} (h : SpecOf c p) (s0 : 1 ≤ c.spin) (s1 : c.spin ≤ 1000) (w : World) (hl : LaidM w) : Calls Tryz.prog 23 #[.agg c.cells] w fun e w' => ∃ be, e = .returned (.tuple #[.pointer (some ⟨be, 0, none⟩), .int .i64 0]) ∧ Below w.heap.size w w' ∧ LockAt w' w.heap.size p be := by
  have K := Aside0.mk (specOf_ok h)
  have P := Aside0.mk (fun (W : World) (hW : LaidM W) => qspec_good H h s0 s1 W hW)
  have HL := Aside0.mk hl
  have C0 := Aside0.mk (blk_new w (.cells c.cells 24))
  have HB0 := Aside0.mk (below_alloc (Below.refl w.heap.size w) (.cells c.cells 24))
  clear H h s0 s1 hl
  obtain ⟨kd, th, sl, ea, sp, st⟩ := c
  simp only [Cfg.cells] at P C0 HB0 K ⊢
  obtain rfl := K.out.len
  go_enter Tryz.func23, Tryz.ntmps23
  go_wp2_with (first | (go_at_call 50; refine (P.out _ (HL.out.below HB0.out)).mono ?_; rintro e w3 ⟨v, rfl, hb, hs⟩; obtain ⟨AL, AS, AI, AR, cL, cS, cI, cR, rfl, hrest⟩ := hs; have HR := Aside0.mk hrest; have m0 := Aside0.mk (blk_below C0.out hb); have HB := Aside0.mk (below_step HB0.out hb); clear hb hrest C0 HB0 P HL; have n0 := Aside0.mk (blk_alloc m0.out (.cells #[.slice AL p.l.length cL, .int .i64 p.lo, .int .i64 p.un, .slice AS p.szs.length cS, .slice AI p.xs.length cI, .int .i64 (p.m : Int), .slice AR p.r7.length cR] 114)); have HK := Aside0.mk (HR.out.2.2.2.2 (w3.alloc (.cells #[.slice AL p.l.length cL, .int .i64 p.lo, .int .i64 p.un, .slice AS p.szs.length cS, .slice AI p.xs.length cI, .int .i64 (p.m : Int), .slice AR p.r7.length cR] 114)) (fun q o hq ho => blk_alloc ho _)); have HB4 := Aside0.mk (below_alloc HB.out (.cells #[.slice AL p.l.length cL, .int .i64 p.lo, .int .i64 p.un, .slice AS p.szs.length cS, .slice AI p.xs.length cI, .int .i64 (p.m : Int), .slice AR p.r7.length cR] 114)); have c1 := (blk_cell n0.out 1).trans rfl; have ne1 : ¬ w.heap.size = w3.heap.size := Nat.ne_of_lt (blk_lt m0.out); have ne2 : ¬ w3.heap.size = w.heap.size := fun e => ne1 e.symm) | (go_at_call 51; refine (execNew_calls AL AS AI AR cL cS cI cR p.l p.lo p.un p.szs p.xs p.r7 p.m _ HK.out.1 HR.out.1 HR.out.2.1 K.out.good K.out.l1 K.out.l64 K.out.lo0 K.out.lo1 K.out.un0 K.out.un1 HK.out.2.1 HR.out.2.2.1 HR.out.2.2.2.1 HK.out.2.2.1 K.out.h8 K.out.hr K.out.hsum K.out.hx K.out.hm HK.out.2.2.2 K.out.n1 K.out.n64).mono ?_; rintro e w5 ⟨be, vl, bm, bc, gc, vs, vb, bp, bq, vr, rs, gk, rfl, hb5, hX, hq, hlen, hrs⟩; have HX := Aside0.mk hX; have HQ := Aside0.mk (⟨hq, hlen, hrs⟩ : _ ∧ _ ∧ _); have HB5 := Aside0.mk (below_step HB4.out hb5); have HS4 := Aside0.mk HB4.out.size; clear hb5 hX hq hlen hrs HK HR n0 m0 c1 ne1 ne2))
  go_ret2
  exact ⟨be, rfl, HB5.out, vl, bm, bc, gc, vs, vb, bp, bq, vr, rs, gk, HX.out.lower HS4.out, HQ.out.1, HQ.out.2.1, HQ.out.2.2⟩
end Go.Proofs.YtjopodnlffaogaaGreatDoor.Tp
end
section
namespace Go.Proofs.YtjopodnlffaogaaGreatDoor.Tp
open Go.RowKit Go.Proofs.YtjopodnlffaogaaGreatDoorW.PrintWords Go.Proofs.YtjopodnlffaogaaGreatDoorW.PrintLast Go.Proofs.YtjopodnlffaogaaGreatDoorW.PrintMore
attribute [local go_sem] max2_int min2_int max_two min_two max_three min_three max_four min_four
set_option linter.unusedVariables false
set_option linter.unusedSimpArgs false
set_option maxHeartbeats 4000000 in
set_option maxRecDepth 100000 in
theorem rq_anderson {txt : ByteArray} (L : List Ins) (n t s : Nat) (ha1 : RAsmOk txt L 0 8) (ha2 : ∀ W : World, Calls Tryz.prog 55 #[.int .i64 (t : Int)] W fun e w' => e = .returned (.string txt) ∧ Below W.heap.size W w') (ea sp : Int) (w : World) (n1 : 1 ≤ n) (n64 : n ≤ 64) (ht64 : t ≤ 64) (hnt : n ≤ t) (hs : s < 4294967296) (hc : (((t : Int) != 1) = false) ∨ (((t : Int) != 1) = true ∧ ((t : Int) != 2) = false) ∨ (((t : Int) != 1) = true ∧ ((t : Int) != 2) = true ∧ ((t : Int) != 4) = false) ∨ (((t : Int) != 1) = true ∧ ((t : Int) != 2) = true ∧ ((t : Int) != 4) = true ∧ ((t : Int) != 8) = false) ∨ (((t : Int) != 1) = true ∧ ((t : Int) != 2) = true ∧ ((t : Int) != 4) = true ∧ ((t : Int) != 8) = true ∧ ((t : Int) != 16) = false) ∨ (((t : Int) != 1) = true ∧ ((t : Int) != 2) = true ∧ ((t : Int) != 4) = true ∧ ((t : Int) != 8) = true ∧ ((t : Int) != 16) = true ∧ ((t : Int) != 32) = false) ∨ (((t : Int) != 1) = true ∧ ((t : Int) != 2) = true ∧ ((t : Int) != 4) = true ∧ ((t : Int) != 8) = true ∧ ((t : Int) != 16) = true ∧ ((t : Int) != 32) = true ∧ ((t : Int) != 64) = false)) (s0 : 1 ≤ sp) (s1 : sp ≤ 1000) :
    Calls Tryz.prog 8 #[.agg #[.int .i64 2, .int .i64 (n : Int), .int .i64 (t : Int), .int .i64 ea, .int .i64 sp, .int .u32 (s : Int)]] w fun e w' => ∃ v, e = .returned (.tuple #[v, .bool true]) ∧ Below w.heap.size w w' ∧ SpecIs w.heap.size w' v (L) 0 8 [1, (t : Int)] (((List.replicate (t + 1) 0).set 0 (s : Int)).set (1 + s % t) 1) 0 (List.replicate n 0) := by
  have e0 : decide (sp < 1) = false := decide_eq_false (by omega)
  have e1 : decide (1000 < sp) = false := decide_eq_false (by omega)
  have P := Aside0.mk (fun W : World => randersonSpec_calls L 0 8 ha1 n t s ha2 W n1 n64 ht64 hnt hs hc)
  have C1 := Aside0.mk (show ((w.alloc (.cells #[.int .i64 2, .int .i64 (n : Int), .int .i64 (t : Int), .int .i64 ea, .int .i64 sp, .int .u32 (s : Int)] 38)).alloc (.cells #[.slice none 0 0, .int .i64 0, .int .i64 0, .slice none 0 0, .slice none 0 0, .int .i64 0, .slice none 0 0] 35)).heap[w.heap.size + 1]? = some (.cells #[.slice none 0 0, .int .i64 0, .int .i64 0, .slice none 0 0, .slice none 0 0, .int .i64 0, .slice none 0 0] 35 (0, 0)) from by
    have := blk_new (w.alloc (.cells #[.int .i64 2, .int .i64 (n : Int), .int .i64 (t : Int), .int .i64 ea, .int .i64 sp, .int .u32 (s : Int)] 38)) (.cells #[.slice none 0 0, .int .i64 0, .int .i64 0, .slice none 0 0, .slice none 0 0, .int .i64 0, .slice none 0 0] 35)
    simpa using this)
  have HB0 := Aside0.mk (below_alloc (below_alloc (Below.refl w.heap.size w) (.cells #[.int .i64 2, .int .i64 (n : Int), .int .i64 (t : Int), .int .i64 ea, .int .i64 sp, .int .u32 (s : Int)] 38)) (.cells #[.slice none 0 0, .int .i64 0, .int .i64 0, .slice none 0 0, .slice none 0 0, .int .i64 0, .slice none 0 0] 35))
  clear s0 s1 ha1 ha2 hc
  go_enter Tryz.func8, Tryz.ntmps8
  go_wp2_with (go_at_call 26; refine (P.out _).mono ?_; rintro e w3 ⟨v, rfl, hb, hs⟩; obtain ⟨AL, AS, AI, AR, cL, cS, cI, cR, rfl, hrest⟩ := hs; have HS := Aside0.mk (show SpecIs _ w3 _ (L) 0 8 [1, (t : Int)] (((List.replicate (t + 1) 0).set 0 (s : Int)).set (1 + s % t) 1) 0 (List.replicate n 0) from ⟨AL, AS, AI, AR, cL, cS, cI, cR, rfl, hrest⟩); have m0 := Aside0.mk (blk_below C1.out hb); have HB := Aside0.mk (below_step HB0.out hb); clear hb hrest C1 HB0 P; obtain ⟨p0, q0, p1, q1, p2, q2, p3, q3, p4, q4, p5, q5, p6, q6⟩ := both7 m0.out)
  clear p0 q0 p1 q1 p2 q2 p3 q3 p4 q4 p5 q5 p6 q6
  simp only [World.size_alloc] at HS
  obtain ⟨WF, hWF, h1, h2, h3⟩ := rq_end m0.out HB.out HS.out
  simp only [List.length_replicate, List.length_set, List.length_cons, List.length_nil, upTo_length, Nat.zero_add, Nat.reduceAdd] at hWF h2 h3
  change bodyPost _ _ _ _ _ (set7 w3 (w.heap.size + 1) _ _ _ _ _ _ _)
  rw [← hWF]
  clear hWF
  obtain ⟨r0, r1, r2, r3, r4, r5, r6⟩ := cells7 h2
  exact bodyPost_ret (by simp [results, Tryz.results8, go_sem, *]) rfl ⟨_, rfl, h1, h3⟩
end Go.Proofs.YtjopodnlffaogaaGreatDoor.Tp
end
