/- A part of the proof of TopConfig: TpRowConfig. -/
import Derived.Test.YtjopodnlffaogaaGreatDoorQFactsConfig
import Derived.Test.YtjopodnlffaogaaGreatDoorQStart
import Derived.Test.YtjopodnlffaogaaGreatDoorRows
import Derived.Test.YtjopodnlffaogaaGreatDoorCards
import Derived.Test.YtjopodnlffaogaaGreatDoorTie
import Derived.SevenTiedAt
import Derived.WalkKit
import Derived.ShutString
import Derived.ChangeOld
import Derived.SizedLaws
import Derived.LaidMore
import Derived.Stop.Joined
section
namespace Go.Proofs.YtjopodnlffaogaaGreatDoor.Tp
open Go.RowKit Go.Proofs.YtjopodnlffaogaaGreatDoorW.PrintWords Go.Proofs.YtjopodnlffaogaaGreatDoorW.PrintLast Go.Proofs.YtjopodnlffaogaaGreatDoorW.PrintMore
attribute [local go_sem] max2_int min2_int max_two min_two max_three min_three max_four min_four
set_option linter.unusedVariables false
set_option linter.unusedSimpArgs false
open Go.ChangeShapes Go.WideShapes Go.ChangeAt
theorem own : ownKnob Tryz.prog.godebug = none := by kernel_rfl
theorem laidOut : laidOutB Tryz.prog = true := by kernel_rfl
theorem cells3 : Tryz.prog.cellsOf 3 = 1 := by kernel_rfl
theorem cells22 : Tryz.prog.cellsOf 22 = 1 := by kernel_rfl
theorem cells24 : Tryz.prog.cellsOf 24 = 6 := by kernel_rfl
theorem list6 {α : Type} (l : List α) (h : l.length = 6) : ∃ a b c d e f, l = [a, b, c, d, e, f] := by
  match l, h with
  | [a, b, c, d, e, f], _ => exact ⟨a, b, c, d, e, f, rfl⟩
section
variable {H : Type} {enc : TypeId × Value → H} {w : World} {base : Nat} {spare : Nat → Bool} {held : Bool}
theorem open_i64 {n : Nat} {c : Value} {o : Option (DataW H × List MemPlace)} (hc : DataW.trod enc Tryz.prog w base spare held n 3 [c] = o) (ho : o.isSome = true) : ∃ v : Int, c = .int .i64 v := by
  obtain ⟨y, rfl⟩ := Option.isSome_iff_exists.1 ho
  obtain ⟨v, hv, _, hw⟩ := DataW.trod_int Tryz.underlying3 hc
  exact ⟨v, by simpa using hv⟩
theorem open_u32 {n : Nat} {c : Value} {o : Option (DataW H × List MemPlace)} (hc : DataW.trod enc Tryz.prog w base spare held n 22 [c] = o) (ho : o.isSome = true) : ∃ v : Nat, c = .int .u32 v ∧ v < 4294967296 := by
  obtain ⟨y, rfl⟩ := Option.isSome_iff_exists.1 ho
  obtain ⟨v, hv, _, hw⟩ := DataW.trod_int Tryz.underlying22 hc
  have hw' : (decide (0 ≤ v) && decide (v ≤ 4294967295)) = true := hw
  simp at hw'
  refine ⟨v.toNat, ?_, by omega⟩
  have : ((v.toNat : Nat) : Int) = v := by omega
  rw [this]
  simpa using hv
theorem open_cfg {fuel : Nat} {cs : List Value} {x : DataW H × List MemPlace} (h : DataW.trod enc Tryz.prog w base spare held fuel 24 cs = some x) :
    ∃ (kd th sl ea sp : Int) (st : Nat), st < 4294967296 ∧ cs = [.int .i64 kd, .int .i64 th, .int .i64 sl, .int .i64 ea, .int .i64 sp, .int .u32 (st : Int)] := by
  obtain ⟨xs, n, _, _, hl, hxs, hf⟩ := DataW.trod_struct Tryz.underlying24 h
  rw [cells24] at hl
  obtain ⟨c0, c1, c2, c3, c4, c5, rfl⟩ := list6 cs hl
  have hx : xs.length = 6 := hxs
  have g0 : DataW.trod enc Tryz.prog w base spare held n 3 (([c0, c1, c2, c3, c4, c5].drop 0).take (Tryz.prog.cellsOf 3)) = xs[0]? := hf 0 _ rfl
  have g1 : DataW.trod enc Tryz.prog w base spare held n 3 (([c0, c1, c2, c3, c4, c5].drop 1).take (Tryz.prog.cellsOf 3)) = xs[1]? := hf 1 _ rfl
  have g2 : DataW.trod enc Tryz.prog w base spare held n 3 (([c0, c1, c2, c3, c4, c5].drop 2).take (Tryz.prog.cellsOf 3)) = xs[2]? := hf 2 _ rfl
  have g3 : DataW.trod enc Tryz.prog w base spare held n 3 (([c0, c1, c2, c3, c4, c5].drop 3).take (Tryz.prog.cellsOf 3)) = xs[3]? := hf 3 _ rfl
  have g4 : DataW.trod enc Tryz.prog w base spare held n 3 (([c0, c1, c2, c3, c4, c5].drop 4).take (Tryz.prog.cellsOf 3)) = xs[4]? := hf 4 _ rfl
  have g5 : DataW.trod enc Tryz.prog w base spare held n 22 (([c0, c1, c2, c3, c4, c5].drop 5).take (Tryz.prog.cellsOf 22)) = xs[5]? := hf 5 _ rfl
  rw [cells3] at g0 g1 g2 g3 g4
  rw [cells22] at g5
  obtain ⟨v0, rfl⟩ := open_i64 g0 (by simp [hx])
  obtain ⟨v1, rfl⟩ := open_i64 g1 (by simp [hx])
  obtain ⟨v2, rfl⟩ := open_i64 g2 (by simp [hx])
  obtain ⟨v3, rfl⟩ := open_i64 g3 (by simp [hx])
  obtain ⟨v4, rfl⟩ := open_i64 g4 (by simp [hx])
  obtain ⟨v5, rfl, l5⟩ := open_u32 g5 (by simp [hx])
  exact ⟨v0, v1, v2, v3, v4, v5, l5, rfl⟩
theorem agg_of {v : Value} {l : List Value} (h : v.cells.toList = l) (hc : ∃ cs, v = .agg cs) : v = .agg l.toArray := by
  obtain ⟨cs, rfl⟩ := hc
  have h' : cs.toList = l := h
  subst h'
  simp
end
set_option maxRecDepth 100000 in
theorem config_lifted (os : Os) (started : os.Started) (H : Type) (enc : TypeId × Value → H) :
    ReturnsInHanded {} Tryz.checked os 3 .any (fun w args => (Rows.topConfigSpec.pre enc Tryz.prog Tryz.f3 [] false w args ∧ laidMetH Tryz.prog Rows.topConfigRow.laid w) ∧ sizedMet enc Tryz.prog Tryz.f3 (OpenSpec.ofChange Rows.topConfigSpec) false w args)
      (Rows.topConfigSpec.post enc Tryz.prog Tryz.f3 false true false false) := by
  refine handed_shaped (C := Tryz.checked) (X := fun w _ => laidMetH Tryz.prog Rows.topConfigRow.laid w) (fun _ _ _ hh h => h.of_heap hh) own started (by kernel_rfl) Tryz.func3
    (ChangeSpec.witness_shaped (enc := enc) (C := Tryz.checked) (os := os) (X := fun w _ => laidMetH Tryz.prog Rows.topConfigRow.laid w) false (World.laidAll Tryz.prog os Rows.topConfigRow.laid) #[.agg #[.int .i64 0, .int .i64 0, .int .i64 0, .int .i64 0, .int .i64 0, .int .u32 0]] 8 (World.laidAll_os _ _ _)
      (World.shaped_of_ZipB (by kernel_rfl) (by kernel_rfl)) (by kernel_rfl) (by kernel_rfl) (by kernel_rfl)
      (by rw [MakeChecks.laidMetH_plain _ _ _ (by kernel_rfl)]; exact laidMet_laidAll _ (by kernel_rfl) (by kernel_rfl))) ?_
  intro W base args ds gs before hval0 hW hL hsh
  have hval : ∀ (j : Nat) t v, Tryz.f3.params[j]? = some t → args[j]? = some v → Value.okWide Tryz.prog W .any base t v := hval0
  have hW' := hW
  obtain ⟨p, q, hA0, hV, rfl, hfz, hnd⟩ := hW
  have hA : DataW.TrodAll enc Tryz.prog W 0 (fun _ => true) true Tryz.f3.params.toList args.toList ds p := hA0
  rw [Tryz.params3] at hA hval
  obtain ⟨v0, d0, rfl, rfl, h0⟩ := trodAll_one hA
  obtain ⟨rfl, rfl⟩ := trodVars_none hV
  have a0 : ∃ cs, v0 = .agg cs := by
    have := hval 0 24 v0 rfl rfl
    simp [Value.okWide, Tryz.underlying24] at this
    obtain ⟨cs, hcs, _⟩ := this
    exact ⟨cs, hcs⟩
  have k0 := h0
  have lt0 : ∀ x ∈ p, x.block < W.heap.size := by obtain ⟨m, hm⟩ := k0; exact DataW.trod_lt m _ _ _ hm
  obtain ⟨f0, g0⟩ := h0
  obtain ⟨kd, th, sl, ea, sp, st, hst, e0⟩ := open_cfg g0
  have z0 := agg_of e0 a0
  subst z0
  rw [MakeChecks.laidMetH_plain _ _ _ (by kernel_rfl)] at hL
  have HS := start_of hsh hL
  clear hA0 hval0
  refine (topConfig_calls kd th sl ea sp st hst W HS).mono fun e W' ⟨he, bel⟩ => ?_
  subst he
  exact ⟨_, rfl, _, _, _, [], _, [], hW', trodAll_mk1 (shut_bool Tryz.underlying4 _), trodAll_mk1 (Below.trod laidOut (by kernel_rfl) (of_decide_eq_true (by kernel_rfl)) k0 bel lt0), rfl, bel.frame _, fun h => by cases h⟩
theorem topConfig_over : Rows.TopConfigSaid :=
  OpenClaim.holds_of_wide 3 Tryz.f3 rfl rfl rfl rfl rfl rfl rfl ⟨rfl, rfl, rfl, rfl, rfl⟩ rfl rfl rfl rfl rfl (by kernel_rfl) Tryz.func3 config_closed
    (of_decide_eq_true (by kernel_rfl)) (by unfold Func.isWrapper; first | (rw [if_pos (by decide +kernel)]; kernel_rfl) | (rw [if_neg (by decide +kernel)]; exact ⟨rfl, rfl⟩))
    (fun os started H enc _ => config_lifted os started H enc)
end Go.Proofs.YtjopodnlffaogaaGreatDoor.Tp
namespace Go.Proofs.YtjopodnlffaogaaGreatDoor
theorem topConfig_holds : Rows.TopConfigCardSaid :=
  Claim7.holds_tied_plain_at .later [] [.data, .data, .data, .data, .sentinel, .sentinel, .widerDeep, .widerDeep, .data, .data, .pinned] true (true, "411cf5d9b3e3716897f9688ee0f53cc93379a4f8abdcb1b24e4640da42838e4b") true
    Tp.topConfig_over (fun _ h => by cases h) (by kernel_rfl) (fun _ h => by cases h) topConfig_row_tie rfl ⟨rfl, rfl⟩ (by kernel_rfl) rfl
    (fun f fn hf hfn => by
      obtain rfl : f = 3 := Option.some.inj ((show Tryz.prog.funcNamed "ropeline/ropelinetop.TopConfig" = some 3 by kernel_rfl).symm.trans hf) |>.symm
      obtain rfl : fn = Tryz.f3 := (Option.some.inj (Tryz.func3.symm.trans hfn)).symm
      exact ⟨by kernel_rfl, fun j t ht => by
        rw [Tryz.params3] at ht
        have hm : t ∈ [24] := by simpa using Array.mem_of_getElem? ht
        have hall : ([24].all fun u => !Tryz.prog.wantsStandIn u) = true := by kernel_rfl
        exact (show Tryz.prog.wantsStandIn t = false by simpa using List.all_eq_true.1 hall t hm)⟩)
    (by kernel_rfl)
end Go.Proofs.YtjopodnlffaogaaGreatDoor
namespace Go.Proofs.YtjopodnlffaogaaGreatDoor.Tp
end Go.Proofs.YtjopodnlffaogaaGreatDoor.Tp
end
