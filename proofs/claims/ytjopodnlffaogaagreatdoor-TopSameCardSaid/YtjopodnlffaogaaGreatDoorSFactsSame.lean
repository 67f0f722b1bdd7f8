/- A part of the proof of TopSame: TmFactsSame. -/
import Derived.Test.YtjopodnlffaogaaGreatDoorSL0
import Derived.Test.YtjopodnlffaogaaGreatDoorRows
import Derived.JoinedOf
import Derived.ProofKit
set_option linter.unusedVariables false
set_option linter.unusedSimpArgs false
set_option maxRecDepth 100000
set_option maxHeartbeats 4000000
section
namespace Go.Proofs.YtjopodnlffaogaaGreatDoor.Tp
open Go.RowKit Go.Proofs.YtjopodnlffaogaaGreatDoorW.PrintWords Go.Proofs.YtjopodnlffaogaaGreatDoorW.PrintLast Go.Proofs.YtjopodnlffaogaaGreatDoorW.PrintMore
attribute [local go_sem] aU aQ aY aX aI aJ aT aN
theorem bX {a b:Bool} (h1:a=true) (h2:b=true):(a&&b)=true:=by rw [h1,h2];rfl
theorem YW:(Rows.topSameRow.wf (OpenSpec.ofChange Rows.topSameSpec))=true:=by kernel_rfl
theorem YS:(laidOutB Tryz.prog)=true:=by kernel_rfl
theorem X6:(mapsRowed Tryz.prog)=true:=by kernel_rfl
theorem VW:(Tryz.f5.params.all (Tryz.prog.readableRec ·))=true:=by kernel_rfl
theorem XM:(namedTie Tryz.prog Rows.topSameRow.named Rows.topSameSpec.vars)=true:=by kernel_rfl
theorem WL:(Rows.topSameRow.stops== [])=true:=by kernel_rfl
theorem VZ:(Tryz.prog.stops== [])=true:=by kernel_rfl
theorem WJ:(Rows.topSameRow.knobs== [])=true:=by kernel_rfl
theorem WQ:(Tryz.prog.stopKnobs== [])=true:=by kernel_rfl
theorem WB:(Rows.topSameRow.inPlace==Tryz.prog.inPlace 5)=true:=by kernel_rfl
theorem TU:(Rows.topSameRow.unfollowed==Tryz.prog.unfollowed 5)=true:=by kernel_rfl
theorem SH:(Rows.topSameRow.recurses==Tryz.prog.recurses 5)=true:=by kernel_rfl
theorem VB:(Rows.topSameRow.named==Tryz.prog.varsNamed 5)=true:=by kernel_rfl
theorem T9:(Rows.topSameRow.maps==(Tryz.f5.params.toList++Rows.topSameSpec.plain.varTypes Tryz.prog).any (Tryz.prog.mapsRec ·))=true:=by kernel_rfl
theorem TG:(Rows.topSameRow.ifaces==(Tryz.f5.params.toList++Rows.topSameSpec.plain.varTypes Tryz.prog).any (Tryz.prog.ifacesRec ·))=true:=by kernel_rfl
theorem QR:(Rows.topSameRow.mapsOut==Tryz.prog.mapsAmong Tryz.f5.resultTypes.toList)=true:=by kernel_rfl
theorem UF:(Rows.topSameRow.loops==(Tryz.f5.params.toList++Rows.topSameSpec.plain.varTypes Tryz.prog).any (Tryz.prog.loopsFrom ·))=true:=by kernel_rfl
theorem TX:(Rows.topSameRow.wideKeys==(Tryz.f5.params.toList++Rows.topSameSpec.plain.varTypes Tryz.prog++Tryz.f5.resultTypes.toList).any (Tryz.prog.wideKeysFrom ·))=true:=by kernel_rfl
theorem QX:(Rows.topSameSpec.vars.all (Tryz.prog.varReadable ·))=true:=by kernel_rfl
theorem SN:(Tryz.f5.resultTypes.all (fun t=>Tryz.prog.readableRec t&&decide (t<Tryz.prog.types.size)))=true:=by kernel_rfl
theorem SX:(Rows.topSameRow.ifacesOut==Tryz.f5.resultTypes.toList.any (Tryz.prog.ifacesRec ·))=true:=by kernel_rfl
theorem T0:(Rows.topSameRow.loopsOut==Tryz.f5.resultTypes.toList.any (Tryz.prog.loopsFrom ·))=true:=by kernel_rfl
theorem RD:(Rows.topSameRow.plainKeys==Tryz.prog.plainKeys)=true:=by kernel_rfl
theorem Q5:(Rows.topSameRow.shortTexts.isNone)=true:=by kernel_rfl
theorem SC:(Tryz.prog.stopsHeard)=true:=by kernel_rfl
theorem QJ:(Tryz.prog.mayEnter)=true:=by kernel_rfl
theorem RZ:(Rows.topSameRow.lifted==Tryz.prog.liftsFinal)=true:=by kernel_rfl
theorem UK:(Tryz.prog.make==some Rows.topSameRow.make)=true:=by kernel_rfl
theorem TV:(Rows.topSameRow.kinds==(if Rows.topSameRow.domain.isEmpty then [] else Tryz.f5.params.toList.map fun t=>match Tryz.prog.underlying t with|some (.int k)=>some k|_=>none))=true:=by kernel_rfl
theorem QT:(Rows.topSameRow.pinned==Rows.topSameRow.pinnedBy)=true:=by kernel_rfl
theorem QA:(Rows.topSameRow.veiled==(Tryz.f5.params.toList++Rows.topSameSpec.plain.varTypes Tryz.prog++Tryz.f5.resultTypes.toList).any (Tryz.prog.veiledRec ·))=true:=by kernel_rfl
theorem SW:(Rows.topSameRow.veiledFits Tryz.prog Tryz.f5.params.toList (Tryz.f5.params.toList++Rows.topSameSpec.plain.varTypes Tryz.prog++Tryz.f5.resultTypes.toList))=true:=by kernel_rfl
set_option maxRecDepth 1000000 in
theorem ED:joinedFacts Tryz.prog 5 Tryz.f5 Rows.topSameSpec Rows.topSameRow=true:=(bX (bX (bX (bX (bX (bX (bX (bX (bX (bX (bX (bX (bX (bX (bX (bX (bX (bX (bX (bX (bX (bX (bX (bX (bX (bX (bX (bX (bX (bX (bX YW YS) X6) VW) XM) WL) VZ) WJ) WQ) WB) TU) SH) VB) T9) TG) QR) UF) TX) QX) SN) SX) T0) RD) Q5) SC) QJ) RZ) UK) TV) QT) QA) SW)
end Go.Proofs.YtjopodnlffaogaaGreatDoor.Tp
end
