/- A part of the proof of TopSame: TpOf, TpIRight0. -/
import Derived.Test.YtjopodnlffaogaaGreatDoorSTab
set_option linter.unusedVariables false
set_option linter.unusedSimpArgs false
set_option maxRecDepth 100000
set_option maxHeartbeats 4000000
section
namespace Go.Proofs.YtjopodnlffaogaaGreatDoor.Tp
open Go.RowKit Go.Proofs.YtjopodnlffaogaaGreatDoorW.PrintWords Go.Proofs.YtjopodnlffaogaaGreatDoorW.PrintLast Go.Proofs.YtjopodnlffaogaaGreatDoorW.PrintMore
attribute [local go_sem] aU aQ aY aX aI aJ aT aN
open Abs
theorem known0 {f:FuncId} {args:List Value} {v:Value} (h:tJ Tryz.prog [] f args v) (w:World):Calls Tryz.prog f args.toArray w fun e w'=>e= .returned v∧Below w.heap.size w w':=by
 refine (h ⟨fun b=>if b<12 then some b else none,fun _=>0⟩ ⟨13,.nil⟩ w ⟨(fun b o hb=>by cases hb),fun b b' c hb=>absurd rfl hb⟩ (fun g hg=>if_pos hg) rfl).mono ?_
 rintro e w' ⟨rfl,hm⟩
 exact ⟨rfl,hm.os,hm.tape,hm.output,hm.size,fun i hi=>hm.block i hi (fun hf=>hf)⟩
def JX:Value→Option (ByteArray × ByteArray)
 | .agg ⟨[.string a,.string b]⟩=>some (a,b)
 |_=>none
theorem MH {v:Value} {a b:ByteArray} (h:JX v=some (a,b)):v= .agg #[.string a,.string b]:=by
 unfold JX at h
 split at h
 ·cases h;rfl
 ·cases h
def UI (op:Int):List Value→Bool
 | [.int .i64 k]=>k==op
 |_=>false
theorem WG {op:Int} {l:List Value} (h:UI op l=true):l= [.int .i64 op]:=by
 unfold UI at h
 split at h
 ·rw [beq_iff_eq] at h;rw [h]
 ·cases h
def inst_of.f (op:Int):Option (ByteArray × ByteArray):=(ofT.find? fun r=>UI op r.1).bind fun r=>JX r.2
theorem inst_of.calls (a0:Int) (r1:ByteArray) (r2:ByteArray) (w:World) (h:inst_of.f a0=some (r1,r2)):
  Calls Tryz.prog 209 #[.int .i64 a0] w fun e w'=>e= .returned (.agg #[.string r1,.string r2])∧Below w.heap.size w w':=by
 obtain ⟨r,h1,h2⟩:=Option.bind_eq_some_iff.1 h
 obtain ⟨_,_,hk⟩:=IE r (List.mem_of_find?_eq_some h1)
 have h3:UI a0 r.1=true:=List.find?_some (p:=fun r:List Value × Value=>UI a0 r.1) h1
 rw [WG h3,MH h2] at hk
 exact known0 (args:= [.int .i64 a0]) hk w
end Go.Proofs.YtjopodnlffaogaaGreatDoor.Tp
end
section
namespace Go.Proofs.YtjopodnlffaogaaGreatDoor.Tp
open Go.RowKit Go.Proofs.YtjopodnlffaogaaGreatDoorW.PrintWords Go.Proofs.YtjopodnlffaogaaGreatDoorW.PrintLast Go.Proofs.YtjopodnlffaogaaGreatDoorW.PrintMore
attribute [local go_sem] aU aQ aY aX aI aJ aT aN
def bC (n:Int) (x:dA) (c:Int):Bool:=
 if c=68 then decide (0≤x.d)&&decide (x.d≤7) else if c=83 then decide (0≤x.s)&&decide (x.s≤7) else if c=84 then decide (0≤x.t)&&decide (x.t≤7) else if c=85 then decide (0≤x.u)&&decide (x.u≤7)
 else if c=65 then decide (0≤x.a)&&decide (x.a≤7) else if c=75 then true else if c=66 then decide (x.k≤31) else if c=77 then decide (1≤x.k)&&decide (x.k≤4) else if c=79 then decide (x.k≤3)
 else if c=87 then decide (x.k≤1)&&(decide (0≤x.t)&&decide (x.t≤7)&&(decide (-1≤x.to_)&&(decide (x.to_= -1) || decide (x.to_<n)))) else if c=80 then decide (0≤x.to_)&&decide (x.to_<n) else false
def bQ (x:dA) (c:Int):dA:=
 if c=68 then { x with d:=0 } else if c=83 then { x with s:=0 } else if c=84 then { x with t:=0 } else if c=85 then { x with u:=0 } else if c=65 then { x with a:=0 }
 else if c=75∨c=66∨c=77∨c=79 then { x with k:=0 } else if c=87 then { x with k:=0,t:=0,to_:=0 } else { x with to_:=0 }
def eQ:dA:=⟨0,0,0,0,0,0,0,0⟩
deriving instance DecidableEq for dA
def eB (n:Int):List Int→dA→Option Bool
 | [],x=>if x=eQ then some true else none
 |c :: cs,x=>if bC n x c then eB n cs (bQ x c) else some false
def xO (c:Int):Prop:=c=68∨c=83∨c=84∨c=85∨c=65∨c=75∨c=66∨c=77∨c=79∨c=87∨c=80
theorem B8 (g:Nat) (w:World):Calls Tryz.prog 210 #[.pointer (some ⟨g,0,none⟩),.int .u8 68] w fun e w'=>e= .returned (.tuple #[.pointer (some ⟨g,1,none⟩),.int .i64 7])∧w=w':=by
 go_enter Tryz.func210,Tryz.ntmps210
 go_wp2
 go_ret2
 exact ⟨rfl,rfl⟩
theorem vO (w:World):Calls Tryz.prog 211 #[.int .u8 68] w fun e w'=>e= .returned (.tuple #[.int .u32 0,.int .u32 0,.bool false])∧bS w w':=by
 go_enter Tryz.func211,Tryz.ntmps211
 go_wp2
 go_ret3
 exact ⟨rfl,bS.refl _⟩
theorem CN (g:Nat) (w:World):Calls Tryz.prog 210 #[.pointer (some ⟨g,0,none⟩),.int .u8 83] w fun e w'=>e= .returned (.tuple #[.pointer (some ⟨g,2,none⟩),.int .i64 7])∧w=w':=by
 go_enter Tryz.func210,Tryz.ntmps210
 go_wp2
 go_ret2
 exact ⟨rfl,rfl⟩
theorem xS (w:World):Calls Tryz.prog 211 #[.int .u8 83] w fun e w'=>e= .returned (.tuple #[.int .u32 0,.int .u32 0,.bool false])∧bS w w':=by
 go_enter Tryz.func211,Tryz.ntmps211
 go_wp2
 go_ret3
 exact ⟨rfl,bS.refl _⟩
theorem jD (g:Nat) (w:World):Calls Tryz.prog 210 #[.pointer (some ⟨g,0,none⟩),.int .u8 84] w fun e w'=>e= .returned (.tuple #[.pointer (some ⟨g,3,none⟩),.int .i64 7])∧w=w':=by
 go_enter Tryz.func210,Tryz.ntmps210
 go_wp2
 go_ret2
 exact ⟨rfl,rfl⟩
theorem vV (w:World):Calls Tryz.prog 211 #[.int .u8 84] w fun e w'=>e= .returned (.tuple #[.int .u32 0,.int .u32 0,.bool false])∧bS w w':=by
 go_enter Tryz.func211,Tryz.ntmps211
 go_wp2
 go_ret3
 exact ⟨rfl,bS.refl _⟩
theorem CO (g:Nat) (w:World):Calls Tryz.prog 210 #[.pointer (some ⟨g,0,none⟩),.int .u8 85] w fun e w'=>e= .returned (.tuple #[.pointer (some ⟨g,4,none⟩),.int .i64 7])∧w=w':=by
 go_enter Tryz.func210,Tryz.ntmps210
 go_wp2
 go_ret2
 exact ⟨rfl,rfl⟩
theorem vU (w:World):Calls Tryz.prog 211 #[.int .u8 85] w fun e w'=>e= .returned (.tuple #[.int .u32 0,.int .u32 0,.bool false])∧bS w w':=by
 go_enter Tryz.func211,Tryz.ntmps211
 go_wp2
 go_ret3
 exact ⟨rfl,bS.refl _⟩
theorem DN (g:Nat) (w:World):Calls Tryz.prog 210 #[.pointer (some ⟨g,0,none⟩),.int .u8 65] w fun e w'=>e= .returned (.tuple #[.pointer (some ⟨g,5,none⟩),.int .i64 7])∧w=w':=by
 go_enter Tryz.func210,Tryz.ntmps210
 go_wp2
 go_ret2
 exact ⟨rfl,rfl⟩
theorem wV (w:World):Calls Tryz.prog 211 #[.int .u8 65] w fun e w'=>e= .returned (.tuple #[.int .u32 0,.int .u32 0,.bool false])∧bS w w':=by
 go_enter Tryz.func211,Tryz.ntmps211
 go_wp2
 go_ret3
 exact ⟨rfl,bS.refl _⟩
theorem YO (g:Nat) (w:World):Calls Tryz.prog 210 #[.pointer (some ⟨g,0,none⟩),.int .u8 75] w fun e w'=>e= .returned (.tuple #[.pointer none,.int .i64 0])∧w=w':=by
 go_enter Tryz.func210,Tryz.ntmps210
 go_wp2
 go_ret2
 exact ⟨rfl,rfl⟩
theorem VE (w:World):Calls Tryz.prog 211 #[.int .u8 75] w fun e w'=>e= .returned (.tuple #[.int .u32 0,.int .u32 4294967295,.bool true])∧bS w w':=by
 go_enter Tryz.func211,Tryz.ntmps211
 go_wp2
 go_ret3
 exact ⟨rfl,bS.refl _⟩
theorem KU (g:Nat) (w:World):Calls Tryz.prog 210 #[.pointer (some ⟨g,0,none⟩),.int .u8 66] w fun e w'=>e= .returned (.tuple #[.pointer none,.int .i64 0])∧w=w':=by
 go_enter Tryz.func210,Tryz.ntmps210
 go_wp2
 go_ret2
 exact ⟨rfl,rfl⟩
theorem FZ (w:World):Calls Tryz.prog 211 #[.int .u8 66] w fun e w'=>e= .returned (.tuple #[.int .u32 0,.int .u32 31,.bool true])∧bS w w':=by
 go_enter Tryz.func211,Tryz.ntmps211
 go_wp2
 go_ret3
 exact ⟨rfl,bS.refl _⟩
theorem CI (g:Nat) (w:World):Calls Tryz.prog 210 #[.pointer (some ⟨g,0,none⟩),.int .u8 77] w fun e w'=>e= .returned (.tuple #[.pointer none,.int .i64 0])∧w=w':=by
 go_enter Tryz.func210,Tryz.ntmps210
 go_wp2
 go_ret2
 exact ⟨rfl,rfl⟩
theorem xK (w:World):Calls Tryz.prog 211 #[.int .u8 77] w fun e w'=>e= .returned (.tuple #[.int .u32 1,.int .u32 4,.bool true])∧bS w w':=by
 go_enter Tryz.func211,Tryz.ntmps211
 go_wp2
 go_ret3
 exact ⟨rfl,bS.refl _⟩
theorem LJ (g:Nat) (w:World):Calls Tryz.prog 210 #[.pointer (some ⟨g,0,none⟩),.int .u8 79] w fun e w'=>e= .returned (.tuple #[.pointer none,.int .i64 0])∧w=w':=by
 go_enter Tryz.func210,Tryz.ntmps210
 go_wp2
 go_ret2
 exact ⟨rfl,rfl⟩
theorem D8 (w:World):Calls Tryz.prog 211 #[.int .u8 79] w fun e w'=>e= .returned (.tuple #[.int .u32 0,.int .u32 3,.bool true])∧bS w w':=by
 go_enter Tryz.func211,Tryz.ntmps211
 go_wp2
 go_ret3
 exact ⟨rfl,bS.refl _⟩
theorem mJ (g:Nat) (w:World):Calls Tryz.prog 210 #[.pointer (some ⟨g,0,none⟩),.int .u8 87] w fun e w'=>e= .returned (.tuple #[.pointer none,.int .i64 0])∧w=w':=by
 go_enter Tryz.func210,Tryz.ntmps210
 go_wp2
 go_ret2
 exact ⟨rfl,rfl⟩
theorem lE (w:World):Calls Tryz.prog 211 #[.int .u8 87] w fun e w'=>e= .returned (.tuple #[.int .u32 0,.int .u32 1,.bool true])∧bS w w':=by
 go_enter Tryz.func211,Tryz.ntmps211
 go_wp2
 go_ret3
 exact ⟨rfl,bS.refl _⟩
theorem CT (g:Nat) (w:World):Calls Tryz.prog 210 #[.pointer (some ⟨g,0,none⟩),.int .u8 80] w fun e w'=>e= .returned (.tuple #[.pointer none,.int .i64 0])∧w=w':=by
 go_enter Tryz.func210,Tryz.ntmps210
 go_wp2
 go_ret2
 exact ⟨rfl,rfl⟩
theorem uT (w:World):Calls Tryz.prog 211 #[.int .u8 80] w fun e w'=>e= .returned (.tuple #[.int .u32 0,.int .u32 0,.bool false])∧bS w w':=by
 go_enter Tryz.func211,Tryz.ntmps211
 go_wp2
 go_ret3
 exact ⟨rfl,bS.refl _⟩
end Go.Proofs.YtjopodnlffaogaaGreatDoor.Tp
end
