/- A part of the proof of TopSame: TmTabs. -/
import Derived.Test.YtjopodnlffaogaaGreatDoorSM6
import Derived.Test.YtjopodnlffaogaaGreatDoorSStart
import Derived.Deep.Slices
import Derived.ChangeSlices
set_option linter.unusedVariables false
set_option linter.unusedSimpArgs false
set_option maxRecDepth 100000
set_option maxHeartbeats 4000000
section
namespace Go.Proofs.YtjopodnlffaogaaGreatDoor.Tp
open Go.RowKit Go.Proofs.YtjopodnlffaogaaGreatDoorW.PrintWords Go.Proofs.YtjopodnlffaogaaGreatDoorW.PrintLast Go.Proofs.YtjopodnlffaogaaGreatDoorW.PrintMore
attribute [local go_sem] aU aQ aY aX aI aJ aT aN
theorem XT {W:World} (hs:W.ShapedOpen Tryz.prog) (hm:laidMet Tryz.prog Rows.topConfigRow.laid W):gD W:=by
 obtain ⟨ps,hl,_,_⟩:=id hm
 obtain ⟨C0,ds0,d0,r0,e0⟩:=A7 hs hl
 obtain ⟨C1,r1,e1⟩:=EG hs hl
 have f0:ds0.map leaf=leaves Rows.laid_ropeline_machine_marks:=by rw [d0];rfl
 rw [f0] at e0
 have g0:C0=#[.int .i64 0,.int .i64 2,.int .i64 3,.int .i64 4,.int .i64 9]:=Array.toList_inj.1 (e0.trans (by kernel_rfl))
 have g1:C1=#[.int .i64 6,.int .i64 0,.int .i64 5,.int .i64 2,.int .i64 10,.int .i64 0,.int .i64 7,.int .i64 0]:=Array.toList_inj.1 (e1.trans (by kernel_rfl))
 subst g0 g1
 exact ⟨r0,r1⟩
section
variable {H:Type} {enc:TypeId × Value→H} {w:World} {base:Nat} {held:Bool}
theorem IU {fuel:Nat} {cs:List Value} {x:DataW H × List MemPlace} (hf:DataW.trod enc Tryz.prog w base (fun _=>true) held fuel 57 cs=some x):
  ∃ (a:Option Addr) (cap:Nat) (l:List Int),cs= [.slice a l.length cap]∧Kd.C (Kd.int .u8) w a l.length l∧∀ y∈l,0≤y∧y<256:=by
 rcases Go.ChangeShapes.open_ints Tryz.underlying57 Tryz.underlying5 (by kernel_rfl) hf with ⟨hcs,_⟩|⟨a,len,cap,zs,hcs,_,hl,hm,hz,_,hcell,hwz⟩
 ·exact ⟨none,0,[],hcs,⟨rfl,by decide,fun h=>absurd h (by decide)⟩,fun y h=>by cases h⟩
 ·simp at hz
  have hlen:(zs.take len).length=len:=by simp;omega
  refine ⟨some a,cap,zs.take len,by rw [hlen];exact hcs,⟨rfl,by rw [hlen];unfold maxLen at hm;omega,fun _=>⟨a,rfl,fun j e hj=>?_⟩⟩,fun y hy=>?_⟩
  ·have hjl:=(List.getElem?_eq_some_iff.1 hj).1
   rw [hlen] at hjl
   rw [List.getElem?_take,if_pos hjl] at hj
   refine ⟨[.int .u8 e],rfl,rfl,fun i u hi=>?_⟩
   have hi0:i=0:=by have:=(List.getElem?_eq_some_iff.1 hi).1;simpa using this
   subst hi0
   have h0:=hcell j (by omega)
   have h1:zs.getD j 0=e:=by rw [List.getD_eq_getElem?_getD,hj];rfl
   rw [h1] at h0
   simp at hi
   subst hi
   simpa [Kd.int,Kd.scalar] using h0
  ·have h1:=hwz y (List.mem_of_mem_take hy)
   have h2:(decide (0≤y)&&decide (y≤255))=true:=h1
   simp at h2
   omega
end
end Go.Proofs.YtjopodnlffaogaaGreatDoor.Tp
end
