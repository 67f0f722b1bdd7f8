/- A part of the proof of TopConfig: TpAlls, TpHand. -/
import Derived.Test.YtjopodnlffaogaaGreatDoorQAsmClh
import Derived.Test.YtjopodnlffaogaaGreatDoorQAsmClhtry
import Derived.Test.YtjopodnlffaogaaGreatDoorQAsmGraunke
import Derived.Test.YtjopodnlffaogaaGreatDoorQAsmK42
import Derived.Test.YtjopodnlffaogaaGreatDoorQAsmMcstry
import Derived.Test.YtjopodnlffaogaaGreatDoorQAsmTicket
import Derived.Test.YtjopodnlffaogaaGreatDoorQTopC
import Derived.Handed
import Derived.ShapedOpen
import Derived.LaidMore
import Derived.Lay
import Derived.ProofKit
import Derived.OpenShut
section
namespace Go.Proofs.YtjopodnlffaogaaGreatDoor.Tp
open Go.RowKit Go.Proofs.YtjopodnlffaogaaGreatDoorW.PrintWords Go.Proofs.YtjopodnlffaogaaGreatDoorW.PrintLast Go.Proofs.YtjopodnlffaogaaGreatDoorW.PrintMore
attribute [local go_sem] max2_int min2_int max_two min_two max_three min_three max_four min_four
set_option linter.unusedVariables false
set_option linter.unusedSimpArgs false
open Abs
theorem asmAll : AsmAll := ⟨ticket_asm, graunke_asm, clh_asm, mcs_asm, k42_asm, clhtry_asm, mcstry_asm, fun j hj => by
  rcases (by omega : j = 0 ∨ j = 1 ∨ j = 2 ∨ j = 3 ∨ j = 4 ∨ j = 5 ∨ j = 6) with rfl | rfl | rfl | rfl | rfl | rfl | rfl
  · exact ⟨_, anderson0_asm, and0_text⟩
  · exact ⟨_, anderson1_asm, and1_text⟩
  · exact ⟨_, anderson2_asm, and2_text⟩
  · exact ⟨_, anderson3_asm, and3_text⟩
  · exact ⟨_, anderson4_asm, and4_text⟩
  · exact ⟨_, anderson5_asm, and5_text⟩
  · exact ⟨_, anderson6_asm, and6_text⟩⟩
theorem topConfig_calls (kd th sl ea sp : Int) (s : Nat) (hs32 : s < 4294967296) (w : World) (hs : Start w) : Calls Tryz.prog 3 #[.agg #[.int .i64 kd, .int .i64 th, .int .i64 sl, .int .i64 ea, .int .i64 sp, .int .u32 (s : Int)]] w fun e w' => e = .returned (.bool true) ∧ Below w.heap.size w w' := by
  rcases classify rAsmAll rAndAll kd th sl ea sp (s : Int) (by omega) (by omega) with ⟨⟨p, hp⟩, s0, s1, hr⟩ | ⟨hp, hr⟩
  · exact topConfig_good asmAll kd th sl ea sp s p hp s0 s1 w hs hr
  · exact topConfig_bad kd th sl ea sp s w hs hp hr
end Go.Proofs.YtjopodnlffaogaaGreatDoor.Tp
end
section
namespace Go.Proofs.YtjopodnlffaogaaGreatDoor.Tp
open Go.RowKit Go.Proofs.YtjopodnlffaogaaGreatDoorW.PrintWords Go.Proofs.YtjopodnlffaogaaGreatDoorW.PrintLast Go.Proofs.YtjopodnlffaogaaGreatDoorW.PrintMore
attribute [local go_sem] max2_int min2_int max_two min_two max_three min_three max_four min_four
set_option linter.unusedVariables false
set_option linter.unusedSimpArgs false
theorem handed_shaped {H : Type} {enc : TypeId × Value → H} {a : Assume} {C : Checked} {os : Os} {f : FuncId} {fn : Func} {s : ChangeSpec} {conds : List PathCond} {apart fresh handsOn again : Bool} {X : World → Array Value → Prop}
    (hX : ∀ (w w' : World) (args : Array Value), w.heap = w'.heap → X w args → X w' args)
    (own : ownKnob C.prog.godebug = none) (started : os.Started) (noInit : C.prog.inits.idxOf? f = none) (hfn : C.prog.funcs[f]? = some fn)
    (witness : ∃ (w : World) (tape : Tape) (i : Input), w.os = os ∧ (w.forCall tape i).Shaped C.prog ∧ i.vars = [] ∧ Input.okWide C.prog (w.forCall tape i) .any w.heap.size f i ∧
      ((s.pre enc C.prog fn conds apart (w.forCall tape i).memory i.args ∧ X (w.forCall tape i).memory i.args) ∧ sizedMet enc C.prog fn (OpenSpec.ofChange s) apart (w.forCall tape i).memory i.args) ∧ a.holds C.prog (lone (Frame.enter C.prog f i.args .normal) [] (w.forCall tape i)))
    (contract : ∀ (W : World) (base : Nat) (args : Array Value) (ds gs : List (DataW H)) (before : List MemPlace),
      (∀ (j : Nat) t v, fn.params[j]? = some t → args[j]? = some v → Value.okWide C.prog W .any base t v) →
      DataW.Whole enc C.prog fn.params.toList s.vars apart W args.toList ds gs before →
      X W args → W.ShapedOpen C.prog →
      Calls C.prog f args W fun e W' => ∃ v, e = .returned v ∧ s.post enc C.prog fn apart fresh handsOn again W args v W') :
    ReturnsInHanded a C os f .any (fun w args => (s.pre enc C.prog fn conds apart w args ∧ X w args) ∧ sizedMet enc C.prog fn (OpenSpec.ofChange s) apart w args) (s.post enc C.prog fn apart fresh handsOn again) := by
  refine returnsInHanded_of_calls own started noInit witness ?_
  intro w tape i _ hsh _ hok hpre _
  obtain ⟨_, _, _, fn', hfn', _, _, _, _, hval⟩ := hok
  have e : fn' = fn := Option.some.inj (hfn'.symm.trans hfn)
  subst e
  obtain ⟨⟨⟨ds, gs, before, hw, hc⟩, hx⟩, hz⟩ := hpre
  have hw' := DataW.Whole.of_heap (w' := w.forCall tape i) (by rfl) hw
  refine (contract (w.forCall tape i) w.heap.size i.args ds gs before hval hw' (hX _ _ _ (by rfl) hx) hsh).mono fun e W' ⟨v, he, hp⟩ => ?_
  subst he
  exact ChangeSpec.post_blind hp
end Go.Proofs.YtjopodnlffaogaaGreatDoor.Tp
end
