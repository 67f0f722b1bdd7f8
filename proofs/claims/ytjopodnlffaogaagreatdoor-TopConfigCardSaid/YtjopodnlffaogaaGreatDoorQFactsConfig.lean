/- A part of the proof of TopConfig: TpFactsConfig. -/
import Derived.Test.YtjopodnlffaogaaGreatDoorQL0
import Derived.Test.YtjopodnlffaogaaGreatDoorRows
import Derived.JoinedOf
import Derived.ProofKit
section
namespace Go.Proofs.YtjopodnlffaogaaGreatDoor.Tp
open Go.RowKit Go.Proofs.YtjopodnlffaogaaGreatDoorW.PrintWords Go.Proofs.YtjopodnlffaogaaGreatDoorW.PrintLast Go.Proofs.YtjopodnlffaogaaGreatDoorW.PrintMore
attribute [local go_sem] max2_int min2_int max_two min_two max_three min_three max_four min_four
set_option linter.unusedVariables false
set_option linter.unusedSimpArgs false
theorem config_and {a b : Bool} (h1 : a = true) (h2 : b = true) : (a && b) = true := by rw [h1, h2]; rfl
theorem config_f0 : (Rows.topConfigRow.wf (OpenSpec.ofChange Rows.topConfigSpec)) = true := by kernel_rfl
theorem config_f1 : (laidOutB Tryz.prog) = true := by kernel_rfl
theorem config_f2 : (mapsRowed Tryz.prog) = true := by kernel_rfl
theorem config_f3 : (Tryz.f3.params.all (Tryz.prog.readableRec ·)) = true := by kernel_rfl
theorem config_f4 : (namedTie Tryz.prog Rows.topConfigRow.named Rows.topConfigSpec.vars) = true := by kernel_rfl
theorem config_f5 : (Rows.topConfigRow.stops == []) = true := by kernel_rfl
theorem config_f6 : (Tryz.prog.stops == []) = true := by kernel_rfl
theorem config_f7 : (Rows.topConfigRow.knobs == []) = true := by kernel_rfl
theorem config_f8 : (Tryz.prog.stopKnobs == []) = true := by kernel_rfl
theorem config_f9 : (Rows.topConfigRow.inPlace == Tryz.prog.inPlace 3) = true := by kernel_rfl
theorem config_f10 : (Rows.topConfigRow.unfollowed == Tryz.prog.unfollowed 3) = true := by kernel_rfl
theorem config_f11 : (Rows.topConfigRow.recurses == Tryz.prog.recurses 3) = true := by kernel_rfl
theorem config_f12 : (Rows.topConfigRow.named == Tryz.prog.varsNamed 3) = true := by kernel_rfl
theorem config_f13 : (Rows.topConfigRow.maps == (Tryz.f3.params.toList ++ Rows.topConfigSpec.plain.varTypes Tryz.prog).any (Tryz.prog.mapsRec ·)) = true := by kernel_rfl
theorem config_f14 : (Rows.topConfigRow.ifaces == (Tryz.f3.params.toList ++ Rows.topConfigSpec.plain.varTypes Tryz.prog).any (Tryz.prog.ifacesRec ·)) = true := by kernel_rfl
theorem config_f15 : (Rows.topConfigRow.mapsOut == Tryz.prog.mapsAmong Tryz.f3.resultTypes.toList) = true := by kernel_rfl
theorem config_f16 : (Rows.topConfigRow.loops == (Tryz.f3.params.toList ++ Rows.topConfigSpec.plain.varTypes Tryz.prog).any (Tryz.prog.loopsFrom ·)) = true := by kernel_rfl
theorem config_f17 : (Rows.topConfigRow.wideKeys == (Tryz.f3.params.toList ++ Rows.topConfigSpec.plain.varTypes Tryz.prog ++ Tryz.f3.resultTypes.toList).any (Tryz.prog.wideKeysFrom ·)) = true := by kernel_rfl
theorem config_f18 : (Rows.topConfigSpec.vars.all (Tryz.prog.varReadable ·)) = true := by kernel_rfl
theorem config_f19 : (Tryz.f3.resultTypes.all (fun t => Tryz.prog.readableRec t && decide (t < Tryz.prog.types.size))) = true := by kernel_rfl
theorem config_f20 : (Rows.topConfigRow.ifacesOut == Tryz.f3.resultTypes.toList.any (Tryz.prog.ifacesRec ·)) = true := by kernel_rfl
theorem config_f21 : (Rows.topConfigRow.loopsOut == Tryz.f3.resultTypes.toList.any (Tryz.prog.loopsFrom ·)) = true := by kernel_rfl
theorem config_f22 : (Rows.topConfigRow.plainKeys == Tryz.prog.plainKeys) = true := by kernel_rfl
theorem config_f23 : (Rows.topConfigRow.shortTexts.isNone) = true := by kernel_rfl
theorem config_f24 : (Tryz.prog.stopsHeard) = true := by kernel_rfl
theorem config_f25 : (Tryz.prog.mayEnter) = true := by kernel_rfl
theorem config_f26 : (Rows.topConfigRow.lifted == Tryz.prog.liftsFinal) = true := by kernel_rfl
theorem config_f27 : (Tryz.prog.make == some Rows.topConfigRow.make) = true := by kernel_rfl
theorem config_f28 : (Rows.topConfigRow.kinds == (if Rows.topConfigRow.domain.isEmpty then [] else Tryz.f3.params.toList.map fun t => match Tryz.prog.underlying t with | some (.int k) => some k | _ => none)) = true := by kernel_rfl
theorem config_f29 : (Rows.topConfigRow.pinned == Rows.topConfigRow.pinnedBy) = true := by kernel_rfl
theorem config_f30 : (Rows.topConfigRow.veiled == (Tryz.f3.params.toList ++ Rows.topConfigSpec.plain.varTypes Tryz.prog ++ Tryz.f3.resultTypes.toList).any (Tryz.prog.veiledRec ·)) = true := by kernel_rfl
theorem config_f31 : (Rows.topConfigRow.veiledFits Tryz.prog Tryz.f3.params.toList (Tryz.f3.params.toList ++ Rows.topConfigSpec.plain.varTypes Tryz.prog ++ Tryz.f3.resultTypes.toList)) = true := by kernel_rfl
set_option maxRecDepth 1000000 in
theorem config_closed : joinedFacts Tryz.prog 3 Tryz.f3 Rows.topConfigSpec Rows.topConfigRow = true := (config_and (config_and (config_and (config_and (config_and (config_and (config_and (config_and (config_and (config_and (config_and (config_and (config_and (config_and (config_and (config_and (config_and (config_and (config_and (config_and (config_and (config_and (config_and (config_and (config_and (config_and (config_and (config_and (config_and (config_and (config_and config_f0 config_f1) config_f2) config_f3) config_f4) config_f5) config_f6) config_f7) config_f8) config_f9) config_f10) config_f11) config_f12) config_f13) config_f14) config_f15) config_f16) config_f17) config_f18) config_f19) config_f20) config_f21) config_f22) config_f23) config_f24) config_f25) config_f26) config_f27) config_f28) config_f29) config_f30) config_f31)
end Go.Proofs.YtjopodnlffaogaaGreatDoor.Tp
end
