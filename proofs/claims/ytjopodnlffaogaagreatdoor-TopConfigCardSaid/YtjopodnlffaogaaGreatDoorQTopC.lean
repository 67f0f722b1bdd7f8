/- A part of the proof of TopConfig: TpTopC. -/
import Derived.Test.YtjopodnlffaogaaGreatDoorQL6
import Derived.Test.YtjopodnlffaogaaGreatDoorQMNew
import Derived.Test.YtjopodnlffaogaaGreatDoorQPlay1
section
namespace Go.Proofs.YtjopodnlffaogaaGreatDoor.Tp
open Go.RowKit Go.Proofs.YtjopodnlffaogaaGreatDoorW.PrintWords Go.Proofs.YtjopodnlffaogaaGreatDoorW.PrintLast Go.Proofs.YtjopodnlffaogaaGreatDoorW.PrintMore
attribute [local go_sem] max2_int min2_int max_two min_two max_three min_three max_four min_four
set_option linter.unusedVariables false
set_option linter.unusedSimpArgs false
set_option maxHeartbeats 4000000 in
set_option maxRecDepth 100000 in
theorem len_calls {w : World} {bm n c : Nat} {v0 v1 v2 v4 v5 : Value} {A : Option Addr} (h : w.heap[bm]? = some (.cells #[v0, v1, v2, .slice A n c, v4, v5] 76 (0, 0))) : Calls Tryz.prog 11 #[.pointer (some ⟨bm, 0, none⟩)] w fun e w' => e = .returned (.int .i64 n) ∧ w' = w := by
  have c3 := (blk_cell h 3).trans rfl
  go_enter Tryz.func11, Tryz.ntmps11
  go_wp2
  go_ret
  exact ⟨rfl, rfl⟩
set_option maxHeartbeats 4000000 in
set_option maxRecDepth 100000 in
theorem ref_calls (kd th sl ea sp st : Int) (w : World) : Calls Tryz.prog 9 #[.agg #[.int .i64 kd, .int .i64 th, .int .i64 sl, .int .i64 ea, .int .i64 sp, .int .u32 st]] w fun e w' => e = .returned (.agg #[.int .i64 kd, .int .i64 th, .int .i64 sl, .int .i64 ea, .int .i64 sp, .int .u32 st]) ∧ Below w.heap.size w w' := by
  have E0 := Aside0.mk (blk_new (w.alloc (.cells #[.int .i64 kd, .int .i64 th, .int .i64 sl, .int .i64 ea, .int .i64 sp, .int .u32 st] 24)) (.cells #[.int .i64 0, .int .i64 0, .int .i64 0, .int .i64 0, .int .i64 0, .int .u32 0] 38))
  have HB := Aside0.mk (below_alloc (below_alloc (Below.refl w.heap.size w) (.cells #[.int .i64 kd, .int .i64 th, .int .i64 sl, .int .i64 ea, .int .i64 sp, .int .u32 st] 24)) (.cells #[.int .i64 kd, .int .i64 th, .int .i64 sl, .int .i64 ea, .int .i64 sp, .int .u32 st] 38))
  go_enter Tryz.func9, Tryz.ntmps9
  go_wp2_with fail
  have E := blk_new (w.alloc (.cells #[.int .i64 kd, .int .i64 th, .int .i64 sl, .int .i64 ea, .int .i64 sp, .int .u32 st] 24)) (.cells #[.int .i64 kd, .int .i64 th, .int .i64 sl, .int .i64 ea, .int .i64 sp, .int .u32 st] 38)
  simp only [World.size_alloc] at E
  obtain ⟨r0, r1, r2, r3, r4, r5⟩ := cells6 E
  exact bodyPost_ret (v := .agg #[.int .i64 kd, .int .i64 th, .int .i64 sl, .int .i64 ea, .int .i64 sp, .int .u32 st]) (by simp [results, Tryz.results9, go_sem, *]) rfl ⟨rfl, HB.out⟩
theorem wpAny_act {P : Program} {md : _} {ops : Array Oper} {Q : Exit → Act → World → Prop} {fuel : Nat} {listed : Array Bool} {a b : Act} {w : World} (e : a = b) (h : wpAny P md ops Q fuel listed b w) : wpAny P md ops Q fuel listed a w := e ▸ h
theorem blk_drew' {w : World} {b : Nat} {o : Obj} (h : w.heap[b]? = some o) : w.drew.heap[b]? = some o := h
structure Start (W : World) : Prop where
  laid : LaidM W
  alive : ∃ ρ, Abs.Rel Tryz.prog ρ (Abs.mkA Abs.V2) W ∧ Abs.GL 12 ρ
theorem Start.below {W W' : World} (h : Start W) (hb : Below W.heap.size W W') : Start W' := by
  obtain ⟨ρ, h1, h2⟩ := h.alive
  exact ⟨h.laid.below hb, ρ, Abs.md_rel h1 ⟨hb.os, hb.tape, hb.output, hb.size, fun i hi _ => hb.block i hi⟩, h2⟩
theorem alive_calls {W : World} (h : Start W) : Calls Tryz.prog 10 #[] W fun e w' => e = .returned (.bool true) ∧ Below W.heap.size W w' := by
  obtain ⟨ρ, h1, h2⟩ := h.alive
  refine (Abs.alive_known ρ (Abs.mkA Abs.V2) W h1 h2 (by kernel_rfl)).mono ?_
  rintro e w' ⟨rfl, hm⟩
  exact ⟨rfl, hm.os, hm.tape, hm.output, hm.size, fun i hi => hm.block i hi (fun hf => hf)⟩
set_option maxHeartbeats 4000000 in
set_option maxRecDepth 100000 in
theorem topConfig_bad (kd th sl ea sp st : Int) (w : World) (hs : Start w) (hp : ∀ W : World, Refused 50 #[.agg #[.int .i64 kd, .int .i64 th, .int .i64 sl, .int .i64 ea, .int .i64 sp, .int .u32 st]] W) (hr : ∀ W : World, RRefused 8 #[.agg #[.int .i64 kd, .int .i64 th, .int .i64 sl, .int .i64 ea, .int .i64 sp, .int .u32 st]] W) : Calls Tryz.prog 3 #[.agg #[.int .i64 kd, .int .i64 th, .int .i64 sl, .int .i64 ea, .int .i64 sp, .int .u32 st]] w fun e w' => e = .returned (.bool true) ∧ Below w.heap.size w w' := by
  have P := Aside0.mk (fun W => mnew_bad kd th sl ea sp st hp W)
  have R := Aside0.mk hr
  have RF := Aside0.mk (fun W => ref_calls kd th sl ea sp st W)
  have HS := Aside0.mk hs
  have C0 := Aside0.mk (blk_new w (.cells #[.int .i64 kd, .int .i64 th, .int .i64 sl, .int .i64 ea, .int .i64 sp, .int .u32 st] 24))
  have HB0 := Aside0.mk (below_alloc (Below.refl w.heap.size w) (.cells #[.int .i64 kd, .int .i64 th, .int .i64 sl, .int .i64 ea, .int .i64 sp, .int .u32 st] 24))
  clear hp hr hs
  unfold NoMach at P
  unfold RRefused at R
  go_enter Tryz.func3, Tryz.ntmps3
  go_wp2_with (first | (go_at_call 7; refine (P.out _).mono ?_; rintro e w3 ⟨rfl, hb⟩; have m0 := Aside0.mk (blk_below C0.out hb); have HB := Aside0.mk (below_step HB0.out hb); clear hb C0 HB0 P; obtain ⟨d0, d1, d2, d3, d4, d5⟩ := cells6 m0.out) | (go_at_call 9; refine (RF.out _).mono ?_; rintro e w4 ⟨rfl, hb⟩; have HB1 := Aside0.mk (below_step HB.out hb); clear hb HB RF m0 d0 d1 d2 d3 d4 d5) | (go_at_call 8; refine (R.out _).mono ?_; rintro e w5 ⟨rfl, hb⟩; have HB2 := Aside0.mk (below_step HB1.out hb); clear hb HB1 R; have HB3 := Aside0.mk (below_alloc HB2.out (.cells #[.slice none 0 0, .int .i64 0, .int .i64 0, .slice none 0 0, .slice none 0 0, .int .i64 0, .slice none 0 0] 35))) | (go_at_call 10; refine (alive_calls (HS.out.below HB3.out)).mono ?_; rintro e w6 ⟨rfl, hb⟩; have HB4 := Aside0.mk (below_step HB3.out hb); clear hb HB3))
  go_ret
  exact ⟨rfl, HB4.out⟩
set_option maxHeartbeats 4000000 in
set_option maxRecDepth 100000 in
theorem topConfig_good (HA : AsmAll) (kd th sl ea sp st : Int) (p : Spc) (hp : SpecOf ⟨kd, th, sl, ea, sp, st⟩ p) (s0 : 1 ≤ sp) (s1 : sp ≤ 1000) (w : World) (hs : Start w) (hr : RGood ⟨kd, th, sl, ea, sp, st⟩) : Calls Tryz.prog 3 #[.agg #[.int .i64 kd, .int .i64 th, .int .i64 sl, .int .i64 ea, .int .i64 sp, .int .u32 st]] w fun e w' => e = .returned (.bool true) ∧ Below w.heap.size w w' := by
  have K := Aside0.mk (specOf_ok hp).len
  have P := Aside0.mk (fun (W : World) (hW : LaidM W) => mnew_good HA hp s0 s1 W hW)
  have R := Aside0.mk hr
  have RF := Aside0.mk (fun W => ref_calls kd th sl ea sp st W)
  have HS := Aside0.mk hs
  have C0 := Aside0.mk (blk_new w (.cells #[.int .i64 kd, .int .i64 th, .int .i64 sl, .int .i64 ea, .int .i64 sp, .int .u32 st] 24))
  have HB0 := Aside0.mk (below_alloc (Below.refl w.heap.size w) (.cells #[.int .i64 kd, .int .i64 th, .int .i64 sl, .int .i64 ea, .int .i64 sp, .int .u32 st] 24))
  clear hp hr hs HA s0 s1
  simp only [Cfg.cells, RGood] at P R K
  obtain rfl := K.out
  go_enter Tryz.func3, Tryz.ntmps3
  go_wp2_with (first | (go_at_call 7; refine (P.out _ (HS.out.below HB0.out).laid).mono ?_; rintro e w3 ⟨bm, rfl, hb, hm⟩; obtain ⟨be, bw, bp, v, vp, cs, gl, hbm, hcell, _, _, _⟩ := hm; have MC := Aside0.mk hcell; have m0 := Aside0.mk (blk_below C0.out hb); have HB := Aside0.mk (below_step HB0.out hb); clear hb hcell hbm C0 HB0 P; obtain ⟨d0, d1, d2, d3, d4, d5⟩ := cells6 m0.out) | (go_at_call 9; refine (RF.out _).mono ?_; rintro e w4 ⟨rfl, hb⟩; have HB1 := Aside0.mk (below_step HB.out hb); have m1 := Aside0.mk (blk_below m0.out hb); have MC1 := Aside0.mk (blk_below MC.out hb); clear hb HB RF m0 MC d0 d1 d2 d3 d4 d5) | (go_at_call 8; refine (R.out _).mono ?_; rintro e w5 ⟨AL, nL, cL, lo, un, AS, nS, cS, AI, nI, cI, m, AR, nR, cR, rfl, hb⟩; have HB2 := Aside0.mk (below_step HB1.out hb); have m2 := Aside0.mk (blk_below m1.out hb); have MC2 := Aside0.mk (blk_below MC1.out hb); clear hb HB1 R m1 MC1; have HB3 := Aside0.mk (below_alloc HB2.out (.cells #[.slice AL nL cL, .int .i64 lo, .int .i64 un, .slice AS nS cS, .slice AI nI cI, .int .i64 m, .slice AR nR cR] 35)); have m3 := Aside0.mk (blk_alloc m2.out (.cells #[.slice AL nL cL, .int .i64 lo, .int .i64 un, .slice AS nS cS, .slice AI nI cI, .int .i64 m, .slice AR nR cR] 35)); have MC3 := Aside0.mk (blk_alloc MC2.out (.cells #[.slice AL nL cL, .int .i64 lo, .int .i64 un, .slice AS nS cS, .slice AI nI cI, .int .i64 m, .slice AR nR cR] 35)); clear HB2 m2 MC2))
  have HB4 := Aside0.mk (below_drew HB3.out)
  have MC4 := Aside0.mk (blk_drew' MC3.out)
  have z1 := (blk_cell (blk_drew' m3.out) 1).trans rfl
  clear HB3 MC3 m3
  clear K
  generalize w5.alloc (.cells #[.slice AL nL cL, .int .i64 lo, .int .i64 un, .slice AS nS cS, .slice AI nI cI, .int .i64 m, .slice AR nR cR] 35) = W5 at *
  refine wp_region_any (by kernel_rfl) ?_
  change wpAny _ _ _ _ _ _ _ (World.drew _)
  refine wpAny_take (i := 0) (v := ?_) rfl (by kernel_rfl) (by kernel_rfl) (by kernel_rfl) (fun _ _ _ h => h) (Or.inl ⟨by kernel_rfl, ?_⟩) ?_
  rotate_left
  · intro w
    go_simp
    all_goals with_reducible rfl
  refine wpAny_take (i := 1) (v := ?_) rfl (by kernel_rfl) (by kernel_rfl) (by kernel_rfl) (fun _ _ _ h => h) (Or.inl ⟨by kernel_rfl, ?_⟩) ?_
  rotate_left
  · intro w
    go_simp
    all_goals with_reducible rfl
  refine wpAny_take (i := 2) (v := ?_) rfl (by kernel_rfl) (by kernel_rfl) (by kernel_rfl) (fun _ _ _ h => h) (Or.inl ⟨by kernel_rfl, ?_⟩) ?_
  rotate_left
  · intro w
    go_simp
    all_goals with_reducible rfl
  refine wpAny_take (i := 3) (v := ?_) rfl (by kernel_rfl) (by kernel_rfl) (by kernel_rfl) (fun _ _ _ h => h) (Or.inl ⟨by kernel_rfl, ?_⟩) ?_
  rotate_left
  · intro w
    go_simp
    all_goals with_reducible rfl
  refine wpAny_take (i := 4) (v := ?_) rfl (by kernel_rfl) (by kernel_rfl) (by kernel_rfl) (fun _ _ _ h => h) (Or.inl ⟨by kernel_rfl, ?_⟩) ?_
  rotate_left
  · intro w
    go_simp
    all_goals with_reducible rfl
  refine wpAny_take (i := 5) (v := ?_) rfl (by kernel_rfl) (by kernel_rfl) (by kernel_rfl) (fun _ _ _ h => h) (Or.inl ⟨by kernel_rfl, ?_⟩) ?_
  rotate_left
  · intro w
    go_simp
    all_goals with_reducible rfl
  refine wpAny_take (i := 6) (v := ?_) rfl (by kernel_rfl) (by kernel_rfl) (by kernel_rfl) (fun _ _ _ h => h) (Or.inl ⟨by kernel_rfl, ?_⟩) ?_
  rotate_left
  · intro w
    go_simp
    all_goals with_reducible rfl
  refine wpAny_act (b := ⟨#[.agg #[.int .i64 kd, .int .i64 (p.r7.length : Int), .int .i64 sl, .int .i64 ea, .int .i64 sp, .int .u32 st], .pointer (some ⟨w.heap.size, 0, none⟩), .bool false, .pointer (some ⟨bm, 0, none⟩), .int .i64 0, .pointer (some ⟨w5.heap.size, 0, none⟩), .bool true, .tuple #[.pointer (some ⟨bm, 0, none⟩), .int .i64 0], .agg #[.int .i64 kd, .int .i64 (p.r7.length : Int), .int .i64 sl, .int .i64 ea, .int .i64 sp, .int .u32 st], .tuple #[.pointer (some ⟨bm, 0, none⟩), .int .i64 0], .pointer (some ⟨bm, 0, none⟩), .int .i64 0, .tuple #[.agg #[.slice AL nL cL, .int .i64 lo, .int .i64 un, .slice AS nS cS, .slice AI nI cI, .int .i64 m, .slice AR nR cR], .bool true], .agg #[.int .i64 kd, .int .i64 (p.r7.length : Int), .int .i64 sl, .int .i64 ea, .int .i64 sp, .int .u32 st], .agg #[.int .i64 kd, .int .i64 (p.r7.length : Int), .int .i64 sl, .int .i64 ea, .int .i64 sp, .int .u32 st], .tuple #[.agg #[.slice AL nL cL, .int .i64 lo, .int .i64 un, .slice AS nS cS, .slice AI nI cI, .int .i64 m, .slice AR nR cR], .bool true], .agg #[.slice AL nL cL, .int .i64 lo, .int .i64 un, .slice AS nS cS, .slice AI nI cI, .int .i64 m, .slice AR nR cR], .bool true, .bool true, .bool false, undef, undef, undef, undef, undef, undef, undef, undef, undef, .pointer (some ⟨bm, 0, none⟩), .bool true, .bool true, .int .i64 0, .bool true, .bool true, .bool true, undef, undef, undef, undef, undef, undef, undef, undef, undef], []⟩) (by kernel_rfl) ?_
  refine wpAny_take (i := 7) (v := ?_) rfl (by kernel_rfl) (by kernel_rfl) (by kernel_rfl) (fun _ _ _ h => h) (Or.inl ⟨by kernel_rfl, ?_⟩) ?_
  rotate_left
  · intro w
    go_simp
    all_goals with_reducible rfl
  refine wpAny_take (i := 9) (v := ?_) rfl (by kernel_rfl) (by kernel_rfl) (by kernel_rfl) (fun _ _ _ h => h) (Or.inl ⟨by kernel_rfl, ?_⟩) ?_
  rotate_left
  · intro w
    go_simp
    all_goals with_reducible rfl
  refine wpAny_act (b := ⟨#[.agg #[.int .i64 kd, .int .i64 (p.r7.length : Int), .int .i64 sl, .int .i64 ea, .int .i64 sp, .int .u32 st], .pointer (some ⟨w.heap.size, 0, none⟩), .bool false, .pointer (some ⟨bm, 0, none⟩), .int .i64 0, .pointer (some ⟨w5.heap.size, 0, none⟩), .bool true, .tuple #[.pointer (some ⟨bm, 0, none⟩), .int .i64 0], .agg #[.int .i64 kd, .int .i64 (p.r7.length : Int), .int .i64 sl, .int .i64 ea, .int .i64 sp, .int .u32 st], .tuple #[.pointer (some ⟨bm, 0, none⟩), .int .i64 0], .pointer (some ⟨bm, 0, none⟩), .int .i64 0, .tuple #[.agg #[.slice AL nL cL, .int .i64 lo, .int .i64 un, .slice AS nS cS, .slice AI nI cI, .int .i64 m, .slice AR nR cR], .bool true], .agg #[.int .i64 kd, .int .i64 (p.r7.length : Int), .int .i64 sl, .int .i64 ea, .int .i64 sp, .int .u32 st], .agg #[.int .i64 kd, .int .i64 (p.r7.length : Int), .int .i64 sl, .int .i64 ea, .int .i64 sp, .int .u32 st], .tuple #[.agg #[.slice AL nL cL, .int .i64 lo, .int .i64 un, .slice AS nS cS, .slice AI nI cI, .int .i64 m, .slice AR nR cR], .bool true], .agg #[.slice AL nL cL, .int .i64 lo, .int .i64 un, .slice AS nS cS, .slice AI nI cI, .int .i64 m, .slice AR nR cR], .bool true, .bool true, .bool false, undef, undef, undef, undef, undef, undef, undef, undef, undef, .pointer (some ⟨bm, 0, none⟩), .bool true, .bool true, .int .i64 0, .bool true, .bool true, .bool true, .pointer (some ⟨bm, 0, none⟩), undef, .pointer (some ⟨w.heap.size, 1, none⟩), undef, undef, undef, undef, undef, undef], []⟩) (by kernel_rfl) ?_
  refine wpAny_ready (rs := [8, 10]) (by kernel_rfl) (by simp) ?_
  refine AllReady.cons rfl (fun K hK => ?_) (AllReady.cons rfl (fun K hK => ?_) AllReady.nil)
  · go_simp
    refine (len_calls MC4.out).mono ?_
    rintro e w6 ⟨rfl, rfl⟩
    go_simp
    refine hK _ _ ?_
    clear hK K
    refine wpAny_ready (rs := [10]) (by kernel_rfl) (by simp) ?_
    refine AllReady.cons rfl (fun K hK => ?_) AllReady.nil
    go_simp
    refine hK _ _ ?_
    clear hK K
    refine wpAny_take (i := 11) (v := ?_) rfl (by kernel_rfl) (by kernel_rfl) (by kernel_rfl) (fun _ _ _ h => h) (Or.inl ⟨by kernel_rfl, ?_⟩) ?_
    rotate_left
    · intro w
      go_simp
      all_goals with_reducible rfl
    refine wpAny_take (i := 12) (v := ?_) rfl (by kernel_rfl) (by kernel_rfl) (by kernel_rfl) (fun _ _ _ h => h) (Or.inl ⟨by kernel_rfl, ?_⟩) ?_
    rotate_left
    · intro w
      go_simp
      all_goals with_reducible rfl
    refine wpAny_take (i := 13) (v := ?_) rfl (by kernel_rfl) (by kernel_rfl) (by kernel_rfl) (fun _ _ _ h => h) (Or.inl ⟨by kernel_rfl, ?_⟩) ?_
    rotate_left
    · intro w
      go_simp
      all_goals with_reducible rfl
    refine wpAny_act (b := ⟨#[.agg #[.int .i64 kd, .int .i64 (p.r7.length : Int), .int .i64 sl, .int .i64 ea, .int .i64 sp, .int .u32 st], .pointer (some ⟨w.heap.size, 0, none⟩), .bool false, .pointer (some ⟨bm, 0, none⟩), .int .i64 0, .pointer (some ⟨w5.heap.size, 0, none⟩), .bool true, .tuple #[.pointer (some ⟨bm, 0, none⟩), .int .i64 0], .agg #[.int .i64 kd, .int .i64 (p.r7.length : Int), .int .i64 sl, .int .i64 ea, .int .i64 sp, .int .u32 st], .tuple #[.pointer (some ⟨bm, 0, none⟩), .int .i64 0], .pointer (some ⟨bm, 0, none⟩), .int .i64 0, .tuple #[.agg #[.slice AL nL cL, .int .i64 lo, .int .i64 un, .slice AS nS cS, .slice AI nI cI, .int .i64 m, .slice AR nR cR], .bool true], .agg #[.int .i64 kd, .int .i64 (p.r7.length : Int), .int .i64 sl, .int .i64 ea, .int .i64 sp, .int .u32 st], .agg #[.int .i64 kd, .int .i64 (p.r7.length : Int), .int .i64 sl, .int .i64 ea, .int .i64 sp, .int .u32 st], .tuple #[.agg #[.slice AL nL cL, .int .i64 lo, .int .i64 un, .slice AS nS cS, .slice AI nI cI, .int .i64 m, .slice AR nR cR], .bool true], .agg #[.slice AL nL cL, .int .i64 lo, .int .i64 un, .slice AS nS cS, .slice AI nI cI, .int .i64 m, .slice AR nR cR], .bool true, .bool true, .bool false, undef, undef, undef, undef, undef, undef, undef, undef, undef, .pointer (some ⟨bm, 0, none⟩), .bool true, .bool true, .int .i64 0, .bool true, .bool true, .bool true, .pointer (some ⟨bm, 0, none⟩), .int .i64 (p.r7.length : Int), .pointer (some ⟨w.heap.size, 1, none⟩), .int .i64 (p.r7.length : Int), .bool true, .bool true, .bool true, undef, undef], []⟩) (by kernel_rfl) ?_
    refine wpAny_ready (rs := [14]) (by kernel_rfl) (by simp) ?_
    refine AllReady.cons rfl (fun K hK => ?_) AllReady.nil
    go_simp
    refine (alive_calls (HS.out.below HB4.out)).mono ?_
    rintro e w7 ⟨rfl, hb⟩
    have HB5 := Aside0.mk (below_step HB4.out hb)
    clear hb HB4 MC4 z1
    go_simp
    refine hK _ _ ?_
    clear hK K
    refine wpAny_take (i := 15) (v := ?_) rfl (by kernel_rfl) (by kernel_rfl) (by kernel_rfl) (fun _ _ _ h => h) (Or.inl ⟨by kernel_rfl, ?_⟩) ?_
    rotate_left
    · intro w
      go_simp
      all_goals with_reducible rfl
    refine wpAny_ready (rs := [16]) (by kernel_rfl) (by simp) ?_
    refine AllReady.cons rfl (fun K hK => ?_) AllReady.nil
    go_simp
    refine hK _ _ ?_
    clear hK K
    refine wpAny_done (by kernel_rfl) ?_ _
    go_wp2
    go_ret
    exact ⟨rfl, HB5.out⟩
  · go_simp
    refine hK _ _ ?_
    clear hK K
    refine wpAny_ready (rs := [8]) (by kernel_rfl) (by simp) ?_
    refine AllReady.cons rfl (fun K hK => ?_) AllReady.nil
    go_simp
    refine (len_calls MC4.out).mono ?_
    rintro e w6 ⟨rfl, rfl⟩
    go_simp
    refine hK _ _ ?_
    clear hK K
    refine wpAny_take (i := 11) (v := ?_) rfl (by kernel_rfl) (by kernel_rfl) (by kernel_rfl) (fun _ _ _ h => h) (Or.inl ⟨by kernel_rfl, ?_⟩) ?_
    rotate_left
    · intro w
      go_simp
      all_goals with_reducible rfl
    refine wpAny_take (i := 12) (v := ?_) rfl (by kernel_rfl) (by kernel_rfl) (by kernel_rfl) (fun _ _ _ h => h) (Or.inl ⟨by kernel_rfl, ?_⟩) ?_
    rotate_left
    · intro w
      go_simp
      all_goals with_reducible rfl
    refine wpAny_take (i := 13) (v := ?_) rfl (by kernel_rfl) (by kernel_rfl) (by kernel_rfl) (fun _ _ _ h => h) (Or.inl ⟨by kernel_rfl, ?_⟩) ?_
    rotate_left
    · intro w
      go_simp
      all_goals with_reducible rfl
    refine wpAny_act (b := ⟨#[.agg #[.int .i64 kd, .int .i64 (p.r7.length : Int), .int .i64 sl, .int .i64 ea, .int .i64 sp, .int .u32 st], .pointer (some ⟨w.heap.size, 0, none⟩), .bool false, .pointer (some ⟨bm, 0, none⟩), .int .i64 0, .pointer (some ⟨w5.heap.size, 0, none⟩), .bool true, .tuple #[.pointer (some ⟨bm, 0, none⟩), .int .i64 0], .agg #[.int .i64 kd, .int .i64 (p.r7.length : Int), .int .i64 sl, .int .i64 ea, .int .i64 sp, .int .u32 st], .tuple #[.pointer (some ⟨bm, 0, none⟩), .int .i64 0], .pointer (some ⟨bm, 0, none⟩), .int .i64 0, .tuple #[.agg #[.slice AL nL cL, .int .i64 lo, .int .i64 un, .slice AS nS cS, .slice AI nI cI, .int .i64 m, .slice AR nR cR], .bool true], .agg #[.int .i64 kd, .int .i64 (p.r7.length : Int), .int .i64 sl, .int .i64 ea, .int .i64 sp, .int .u32 st], .agg #[.int .i64 kd, .int .i64 (p.r7.length : Int), .int .i64 sl, .int .i64 ea, .int .i64 sp, .int .u32 st], .tuple #[.agg #[.slice AL nL cL, .int .i64 lo, .int .i64 un, .slice AS nS cS, .slice AI nI cI, .int .i64 m, .slice AR nR cR], .bool true], .agg #[.slice AL nL cL, .int .i64 lo, .int .i64 un, .slice AS nS cS, .slice AI nI cI, .int .i64 m, .slice AR nR cR], .bool true, .bool true, .bool false, undef, undef, undef, undef, undef, undef, undef, undef, undef, .pointer (some ⟨bm, 0, none⟩), .bool true, .bool true, .int .i64 0, .bool true, .bool true, .bool true, .pointer (some ⟨bm, 0, none⟩), .int .i64 (p.r7.length : Int), .pointer (some ⟨w.heap.size, 1, none⟩), .int .i64 (p.r7.length : Int), .bool true, .bool true, .bool true, undef, undef], []⟩) (by kernel_rfl) ?_
    refine wpAny_ready (rs := [14]) (by kernel_rfl) (by simp) ?_
    refine AllReady.cons rfl (fun K hK => ?_) AllReady.nil
    go_simp
    refine (alive_calls (HS.out.below HB4.out)).mono ?_
    rintro e w7 ⟨rfl, hb⟩
    have HB5 := Aside0.mk (below_step HB4.out hb)
    clear hb HB4 MC4 z1
    go_simp
    refine hK _ _ ?_
    clear hK K
    refine wpAny_take (i := 15) (v := ?_) rfl (by kernel_rfl) (by kernel_rfl) (by kernel_rfl) (fun _ _ _ h => h) (Or.inl ⟨by kernel_rfl, ?_⟩) ?_
    rotate_left
    · intro w
      go_simp
      all_goals with_reducible rfl
    refine wpAny_ready (rs := [16]) (by kernel_rfl) (by simp) ?_
    refine AllReady.cons rfl (fun K hK => ?_) AllReady.nil
    go_simp
    refine hK _ _ ?_
    clear hK K
    refine wpAny_done (by kernel_rfl) ?_ _
    go_wp2
    go_ret
    exact ⟨rfl, HB5.out⟩
end Go.Proofs.YtjopodnlffaogaaGreatDoor.Tp
end
