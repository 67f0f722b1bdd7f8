/- A part of the proof of TopSame: TpTopC. -/
import Derived.Test.YtjopodnlffaogaaGreatDoorSMNew
import Derived.Test.YtjopodnlffaogaaGreatDoorSPlay1
set_option linter.unusedVariables false
set_option linter.unusedSimpArgs false
set_option maxRecDepth 100000
set_option maxHeartbeats 4000000
section
namespace Go.Proofs.YtjopodnlffaogaaGreatDoor.Tp
open Go.RowKit Go.Proofs.YtjopodnlffaogaaGreatDoorW.PrintWords Go.Proofs.YtjopodnlffaogaaGreatDoorW.PrintLast Go.Proofs.YtjopodnlffaogaaGreatDoorW.PrintMore
attribute [local go_sem] aU aQ aY aX aI aJ aT aN
structure Start (W:World):Prop where
 laid:dO W
 alive:∃ ρ,Abs.Rel Tryz.prog ρ (Abs.jU Abs.V2) W∧Abs.GL 12 ρ
theorem Start.below {W W':World} (h:Start W) (hb:Below W.heap.size W W'):Start W':=by
 obtain ⟨ρ,h1,h2⟩:=h.alive
 exact ⟨h.laid.below hb,ρ,Abs.J1 h1 ⟨hb.os,hb.tape,hb.output,hb.size,fun i hi _=>hb.block i hi⟩,h2⟩
theorem tF {W:World} (h:Start W):Calls Tryz.prog 10 #[] W fun e w'=>e= .returned (.bool true)∧Below W.heap.size W w':=by
 obtain ⟨ρ,h1,h2⟩:=h.alive
 refine (Abs.ES ρ (Abs.jU Abs.V2) W h1 h2 (by kernel_rfl)).mono ?_
 rintro e w' ⟨rfl,hm⟩
 exact ⟨rfl,hm.os,hm.tape,hm.output,hm.size,fun i hi=>hm.block i hi (fun hf=>hf)⟩
end Go.Proofs.YtjopodnlffaogaaGreatDoor.Tp
end
