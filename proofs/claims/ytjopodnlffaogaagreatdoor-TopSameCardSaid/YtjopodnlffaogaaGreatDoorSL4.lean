/- A part of the proof of TopSame: TpPlay0, TpAnd. -/
import Derived.Test.YtjopodnlffaogaaGreatDoorSAsmAnd0
import Derived.Test.YtjopodnlffaogaaGreatDoorSAsmAnd1
import Derived.Test.YtjopodnlffaogaaGreatDoorSAsmAnd2
import Derived.Test.YtjopodnlffaogaaGreatDoorSAsmMcs
set_option linter.unusedVariables false
set_option linter.unusedSimpArgs false
set_option maxRecDepth 100000
set_option maxHeartbeats 4000000
section
namespace Go.Proofs.YtjopodnlffaogaaGreatDoor.Abs
open Tp
def V2:iR:= [(0,[.int .i64 0,.int .i64 2,.int .i64 3,.int .i64 4,.int .i64 9],224),(1,[.int .i64 6,.int .i64 0,.int .i64 5,.int .i64 2,.int .i64 10,.int .i64 0,.int .i64 7,.int .i64 0],226),(2,[.string ⟨⟨[]⟩⟩,.string ⟨⟨[116,105,99,107,101,116]⟩⟩,.string ⟨⟨[97,110,100,101,114,115,111,110]⟩⟩,.string ⟨⟨[103,114,97,117,110,107,101]⟩⟩,.string ⟨⟨[99,108,104]⟩⟩,.string ⟨⟨[109,99,115]⟩⟩,.string ⟨⟨[107,52,50]⟩⟩,.string ⟨⟨[99,108,104,45,116,114,121]⟩⟩,.string ⟨⟨[109,99,115,45,116,114,121]⟩⟩],232),(4,[.string ⟨⟨[]⟩⟩,.string ⟨⟨[99,97,108,108]⟩⟩,.string ⟨⟨[101,110,113]⟩⟩,.string ⟨⟨[103,114,97,110,116]⟩⟩,.string ⟨⟨[97,98,111,114,116]⟩⟩,.string ⟨⟨[103,111,116]⟩⟩,.string ⟨⟨[108,111,115,116]⟩⟩,.string ⟨⟨[102,117,108,108]⟩⟩,.string ⟨⟨[117,110,108,111,99,107]⟩⟩,.string ⟨⟨[114,101,108,101,97,115,101]⟩⟩,.string ⟨⟨[111,118,101,114]⟩⟩],290),(5,pows,367),(8,[.iface 384 (.pointer (some ⟨12,0,some 0⟩))],104)]
theorem Q6:jW V2=true:=by kernel_rfl
noncomputable def I5:Callee:=or mcsI I1
theorem I5_ok:bV Tryz.prog 12 I5:=rI Y6 AD
noncomputable def C5:Callee:=run Tryz.prog 12 I5 1000 30
theorem vJ:bV Tryz.prog 12 C5:=qB I5_ok wide fit 1000 30
def qL:ByteArray:=⟨⟨[109,99,115,32,50,32,48,32,48,32,49,32,48,10,108,111,99,107,32,48,10,114,111,117,110,100,10,114,111,117,110,100,10,114,111,117,110,100,10,108,111,99,107,32,49,10,114,111,117,110,100,10,114,111,117,110,100,10,114,111,117,110,100,10,116,114,97,99,101,10,99,101,108,108,115,10]⟩⟩
def YY:ByteArray:=⟨⟨[111,107,10,111,107,32,49,10,111,107,32,49,10,111,107,32,49,10,111,107,10,111,107,32,49,10,111,107,32,49,10,111,107,32,49,10,99,97,108,108,32,48,32,48,10,101,110,113,32,48,32,48,10,103,114,97,110,116,32,48,32,48,10,103,111,116,32,48,32,48,10,99,97,108,108,32,49,32,48,10,101,110,113,32,49,32,48,10,101,110,100,32,54,10,99,101,108,108,115,32,50,32,48,32,48,32,49,32,49,10]⟩⟩
noncomputable def uV:Option (Func × eV × Fr × List (List UInt8) × A):=gI 22 C5 1000 [.string qL] (jU V2)
end Go.Proofs.YtjopodnlffaogaaGreatDoor.Abs
end
section
namespace Go.Proofs.YtjopodnlffaogaaGreatDoor.Tp
open Go.RowKit Go.Proofs.YtjopodnlffaogaaGreatDoorW.PrintWords Go.Proofs.YtjopodnlffaogaaGreatDoorW.PrintLast Go.Proofs.YtjopodnlffaogaaGreatDoorW.PrintMore
attribute [local go_sem] aU aQ aY aX aI aJ aT aN
theorem NP:mR 161 #[.int .i64 1] Abs.lR:=by
 intro w W hw hbl
 obtain ⟨m,hm⟩:=(hw.below hbl).2
 clear hw hbl
 have hw1:IntKind.i64.wrap (1 - 1)=((0:Nat):Int):=by kernel_rfl
 have HM:=aA.mk hm
 have IT:=fun V:World=>(show Calls Tryz.prog 155 #[.int .i64 0] V (fun e w'=>e= .returned (.string ⟨(Go.Lib.decDigits 0).toArray⟩)∧w'=V) from Tryz.strconv_Itoa_small 0 (by decide) V)
 clear hm
 go_enter Tryz.func161,Tryz.ntmps161
 go_wp2_with fail
 refine (IT _).mono ?_
 rintro e w' ⟨rfl,rfl⟩
 go_wp2_with fail
 refine (Tryz.strings_ReplaceAll _ _ _ m _ (Nat.le_of_ble_eq_true (by kernel_rfl)) HM.out (Nat.le_of_ble_eq_true (by kernel_rfl)) (Nat.le_of_ble_eq_true (by kernel_rfl))).mono ?_
 rintro e w' ⟨rfl,hb⟩
 have HB:=aA.mk hb
 clear hb
 go_wp2_with fail
 go_ret
 exact ⟨by kernel_rfl,HB.out⟩
theorem OT:mR 161 #[.int .i64 2] Abs.lM:=by
 intro w W hw hbl
 obtain ⟨m,hm⟩:=(hw.below hbl).2
 clear hw hbl
 have hw1:IntKind.i64.wrap (2 - 1)=((1:Nat):Int):=by kernel_rfl
 have HM:=aA.mk hm
 have IT:=fun V:World=>(show Calls Tryz.prog 155 #[.int .i64 1] V (fun e w'=>e= .returned (.string ⟨(Go.Lib.decDigits 1).toArray⟩)∧w'=V) from Tryz.strconv_Itoa_small 1 (by decide) V)
 clear hm
 go_enter Tryz.func161,Tryz.ntmps161
 go_wp2_with fail
 refine (IT _).mono ?_
 rintro e w' ⟨rfl,rfl⟩
 go_wp2_with fail
 refine (Tryz.strings_ReplaceAll _ _ _ m _ (Nat.le_of_ble_eq_true (by kernel_rfl)) HM.out (Nat.le_of_ble_eq_true (by kernel_rfl)) (Nat.le_of_ble_eq_true (by kernel_rfl))).mono ?_
 rintro e w' ⟨rfl,hb⟩
 have HB:=aA.mk hb
 clear hb
 go_wp2_with fail
 go_ret
 exact ⟨by kernel_rfl,HB.out⟩
theorem ON:mR 161 #[.int .i64 4] Abs.lO:=by
 intro w W hw hbl
 obtain ⟨m,hm⟩:=(hw.below hbl).2
 clear hw hbl
 have hw1:IntKind.i64.wrap (4 - 1)=((3:Nat):Int):=by kernel_rfl
 have HM:=aA.mk hm
 have IT:=fun V:World=>(show Calls Tryz.prog 155 #[.int .i64 3] V (fun e w'=>e= .returned (.string ⟨(Go.Lib.decDigits 3).toArray⟩)∧w'=V) from Tryz.strconv_Itoa_small 3 (by decide) V)
 clear hm
 go_enter Tryz.func161,Tryz.ntmps161
 go_wp2_with fail
 refine (IT _).mono ?_
 rintro e w' ⟨rfl,rfl⟩
 go_wp2_with fail
 refine (Tryz.strings_ReplaceAll _ _ _ m _ (Nat.le_of_ble_eq_true (by kernel_rfl)) HM.out (Nat.le_of_ble_eq_true (by kernel_rfl)) (Nat.le_of_ble_eq_true (by kernel_rfl))).mono ?_
 rintro e w' ⟨rfl,hb⟩
 have HB:=aA.mk hb
 clear hb
 go_wp2_with fail
 go_ret
 exact ⟨by kernel_rfl,HB.out⟩
theorem MJ:mR 161 #[.int .i64 8] Abs.lQ:=by
 intro w W hw hbl
 obtain ⟨m,hm⟩:=(hw.below hbl).2
 clear hw hbl
 have hw1:IntKind.i64.wrap (8 - 1)=((7:Nat):Int):=by kernel_rfl
 have HM:=aA.mk hm
 have IT:=fun V:World=>(show Calls Tryz.prog 155 #[.int .i64 7] V (fun e w'=>e= .returned (.string ⟨(Go.Lib.decDigits 7).toArray⟩)∧w'=V) from Tryz.strconv_Itoa_small 7 (by decide) V)
 clear hm
 go_enter Tryz.func161,Tryz.ntmps161
 go_wp2_with fail
 refine (IT _).mono ?_
 rintro e w' ⟨rfl,rfl⟩
 go_wp2_with fail
 refine (Tryz.strings_ReplaceAll _ _ _ m _ (Nat.le_of_ble_eq_true (by kernel_rfl)) HM.out (Nat.le_of_ble_eq_true (by kernel_rfl)) (Nat.le_of_ble_eq_true (by kernel_rfl))).mono ?_
 rintro e w' ⟨rfl,hb⟩
 have HB:=aA.mk hb
 clear hb
 go_wp2_with fail
 go_ret
 exact ⟨by kernel_rfl,HB.out⟩
theorem OW:mR 161 #[.int .i64 16] Abs.lP:=by
 intro w W hw hbl
 obtain ⟨m,hm⟩:=(hw.below hbl).2
 clear hw hbl
 have hw1:IntKind.i64.wrap (16 - 1)=((15:Nat):Int):=by kernel_rfl
 have HM:=aA.mk hm
 have IT:=fun V:World=>(show Calls Tryz.prog 155 #[.int .i64 15] V (fun e w'=>e= .returned (.string ⟨(Go.Lib.decDigits 15).toArray⟩)∧w'=V) from Tryz.strconv_Itoa_small 15 (by decide) V)
 clear hm
 go_enter Tryz.func161,Tryz.ntmps161
 go_wp2_with fail
 refine (IT _).mono ?_
 rintro e w' ⟨rfl,rfl⟩
 go_wp2_with fail
 refine (Tryz.strings_ReplaceAll _ _ _ m _ (Nat.le_of_ble_eq_true (by kernel_rfl)) HM.out (Nat.le_of_ble_eq_true (by kernel_rfl)) (Nat.le_of_ble_eq_true (by kernel_rfl))).mono ?_
 rintro e w' ⟨rfl,hb⟩
 have HB:=aA.mk hb
 clear hb
 go_wp2_with fail
 go_ret
 exact ⟨by kernel_rfl,HB.out⟩
theorem MU:mR 161 #[.int .i64 32] Abs.lW:=by
 intro w W hw hbl
 obtain ⟨m,hm⟩:=(hw.below hbl).2
 clear hw hbl
 have hw1:IntKind.i64.wrap (32 - 1)=((31:Nat):Int):=by kernel_rfl
 have HM:=aA.mk hm
 have IT:=fun V:World=>(show Calls Tryz.prog 155 #[.int .i64 31] V (fun e w'=>e= .returned (.string ⟨(Go.Lib.decDigits 31).toArray⟩)∧w'=V) from Tryz.strconv_Itoa_small 31 (by decide) V)
 clear hm
 go_enter Tryz.func161,Tryz.ntmps161
 go_wp2_with fail
 refine (IT _).mono ?_
 rintro e w' ⟨rfl,rfl⟩
 go_wp2_with fail
 refine (Tryz.strings_ReplaceAll _ _ _ m _ (Nat.le_of_ble_eq_true (by kernel_rfl)) HM.out (Nat.le_of_ble_eq_true (by kernel_rfl)) (Nat.le_of_ble_eq_true (by kernel_rfl))).mono ?_
 rintro e w' ⟨rfl,hb⟩
 have HB:=aA.mk hb
 clear hb
 go_wp2_with fail
 go_ret
 exact ⟨by kernel_rfl,HB.out⟩
theorem O0:mR 161 #[.int .i64 64] Abs.lU:=by
 intro w W hw hbl
 obtain ⟨m,hm⟩:=(hw.below hbl).2
 clear hw hbl
 have hw1:IntKind.i64.wrap (64 - 1)=((63:Nat):Int):=by kernel_rfl
 have HM:=aA.mk hm
 have IT:=fun V:World=>(show Calls Tryz.prog 155 #[.int .i64 63] V (fun e w'=>e= .returned (.string ⟨(Go.Lib.decDigits 63).toArray⟩)∧w'=V) from Tryz.strconv_Itoa_small 63 (by decide) V)
 clear hm
 go_enter Tryz.func161,Tryz.ntmps161
 go_wp2_with fail
 refine (IT _).mono ?_
 rintro e w' ⟨rfl,rfl⟩
 go_wp2_with fail
 refine (Tryz.strings_ReplaceAll _ _ _ m _ (Nat.le_of_ble_eq_true (by kernel_rfl)) HM.out (Nat.le_of_ble_eq_true (by kernel_rfl)) (Nat.le_of_ble_eq_true (by kernel_rfl))).mono ?_
 rintro e w' ⟨rfl,hb⟩
 have HB:=aA.mk hb
 clear hb
 go_wp2_with fail
 go_ret
 exact ⟨by kernel_rfl,HB.out⟩
end Go.Proofs.YtjopodnlffaogaaGreatDoor.Tp
end
