/- A part of the proof of TopSame: TpIRight. -/
import Derived.Test.YtjopodnlffaogaaGreatDoorSL2
set_option linter.unusedVariables false
set_option linter.unusedSimpArgs false
set_option maxRecDepth 100000
set_option maxHeartbeats 4000000
section
namespace Go.Proofs.YtjopodnlffaogaaGreatDoor.Tp
open Go.RowKit Go.Proofs.YtjopodnlffaogaaGreatDoorW.PrintWords Go.Proofs.YtjopodnlffaogaaGreatDoorW.PrintLast Go.Proofs.YtjopodnlffaogaaGreatDoorW.PrintMore
attribute [local go_sem] aU aQ aY aX aI aJ aT aN
theorem cC {n:Int} {c:Int} {cs:List Int} {y:dA} {r:Bool} (h:eB n (c :: cs) y=some r) (hb:bC n y c=false):r=false:=by
 unfold eB at h
 rw [if_neg (by rw [hb];decide)] at h
 exact (Option.some.inj h).symm
theorem dK {n:Int} {c:Int} {cs:List Int} {y:dA} {r:Bool} (h:eB n (c :: cs) y=some r) (hb:bC n y c=true):eB n cs (bQ y c)=some r:=by
 unfold eB at h
 rwa [if_pos hb] at h
theorem Mod.uA {w w1:World} {g:Nat} (h:Mod (fun q=>q=g) w w1) (i:Nat) (v:Value):Mod (fun q=>q=g) w (w1.setCell ⟨g,i,none⟩ v):=h.setCell (p:=⟨g,i,none⟩) rfl v
theorem cX {a b:Bool} (h:a=b):Ending.returned (.bool a)= .returned (.bool b):=by rw [h]
abbrev EP (x:dA):Array Value:=#[.int .i64 x.op,.int .i64 x.d,.int .i64 x.s,.int .i64 x.t,.int .i64 x.u,.int .i64 x.a,.int .u32 x.k,.int .i64 x.to_]
theorem RX (W:World):(binOp .eql 214 (.agg (EP eQ)) (.agg (EP eQ))).run Tryz.prog W= .ok (.bool true) W:=by kernel_rfl
theorem B7 (x:dA) (n:Int) (nm has:ByteArray) (r:Bool) (w:World) (hof:inst_of.f x.op=some (nm,has)) (hnm:nm.toList.isEmpty=false) (hs:∀ c∈bytesOf has,xO c) (hsz:has.size≤8) (k0:0≤x.k) (k1:x.k<4294967296)
  (hr:eB n (bytesOf has) { x with op:=0 } =some r):Calls Tryz.prog 176 #[.agg (EP x),.int .i64 n] w fun e w'=>e= .returned (.bool r)∧Below w.heap.size w w':=by
 have HS:=aA.mk hs
 have HR:=aA.mk hr
 have HZ:=aA.mk (show has.size≤9223372036854775807 by omega)
 have OF:=aA.mk (fun W=>inst_of.calls x.op nm has W hof)
 have hcv:=fun (W:World)=>Lib.run_convert_string_bytes (P:=Tryz.prog) W 9 57 5 has Tryz.underlying9 Tryz.underlying57 Tryz.underlying5
 clear hs hr hof
 obtain ⟨xop,xd,xs,xt,xu,xa,xk,xto⟩:=x
 dsimp only at k0 k1 HR OF
 show Calls Tryz.prog 176 #[.agg #[.int .i64 xop,.int .i64 xd,.int .i64 xs,.int .i64 xt,.int .i64 xu,.int .i64 xa,.int .u32 xk,.int .i64 xto],.int .i64 n] w _
 go_enter Tryz.func176,Tryz.ntmps176
 go_wp2_with (go_at_call 209;refine (OF.out _).mono ?_;rintro e w1 ⟨rfl,hb⟩;have HB:=aA.mk (bA (aD (Below.refl w.heap.size w) _) hb);have cc:=fun (j:Nat) (v:Value) (h:(w.alloc (.cells #[.int .i64 xop,.int .i64 xd,.int .i64 xs,.int .i64 xt,.int .i64 xu,.int .i64 xa,.int .u32 xk,.int .i64 xto] 214)).cell? ⟨w.heap.size,j,none⟩=some v)=>pR hb h;have c0:=cc 0 _ (aC (bF w _) 0);have c1:=cc 1 _ (aC (bF w _) 1);have c2:=cc 2 _ (aC (bF w _) 2);have c3:=cc 3 _ (aC (bF w _) 3);have c4:=cc 4 _ (aC (bF w _) 4);have c5:=cc 5 _ (aC (bF w _) 5);have c6:=cc 6 _ (aC (bF w _) 6);have c7:=cc 7 _ (aC (bF w _) 7);have z0:w.heap.size<w1.heap.size:=World.block_lt_of_cell? w1 _ c0;clear hb cc OF)

 clear c0 c1 c2 c3 c4 c5 c6 c7 hcv z0
 have BR:=aA.mk (show (Lib.bytesWorld ((w1.alloc (.cells #[.string nm,.string has] 318)).alloc (.cells #[.int .i64 0,.int .i64 xd,.int .i64 xs,.int .i64 xt,.int .i64 xu,.int .i64 xa,.int .u32 xk,.int .i64 xto] 214)) 5 has).heap[w1.heap.size+1]?=some (.cells (EP ⟨0,xd,xs,xt,xu,xa,xk,xto⟩) 214 (0,0)) from by
  rw [Lib.bytesWorld_at_old _ _ _ _ (by simp)]
  have:=bF (w1.alloc (.cells #[.string nm,.string has] 318)) (.cells #[.int .i64 0,.int .i64 xd,.int .i64 xs,.int .i64 xt,.int .i64 xu,.int .i64 xa,.int .u32 xk,.int .i64 xto] 214)
  simpa using this)
 have BY:=aA.mk (fun (j:Nat) (hj:j<has.size)=>(show (Lib.bytesWorld ((w1.alloc (.cells #[.string nm,.string has] 318)).alloc (.cells #[.int .i64 0,.int .i64 xd,.int .i64 xs,.int .i64 xt,.int .i64 xu,.int .i64 xa,.int .u32 xk,.int .i64 xto] 214)) 5 has).cell? ⟨w1.heap.size+1+1,j,none⟩=some (.int .u8 ((bytesOf has).getD j 0)) from by
  have h:=Lib.bytesWorld_cell ((w1.alloc (.cells #[.string nm,.string has] 318)).alloc (.cells #[.int .i64 0,.int .i64 xd,.int .i64 xs,.int .i64 xt,.int .i64 xu,.int .i64 xa,.int .u32 xk,.int .i64 xto] 214)) 5 has j hj
  have e1:((w1.alloc (.cells #[.string nm,.string has] 318)).alloc (.cells #[.int .i64 0,.int .i64 xd,.int .i64 xs,.int .i64 xt,.int .i64 xu,.int .i64 xa,.int .u32 xk,.int .i64 xto] 214)).heap.size=w1.heap.size+1+1:=by simp
  rw [e1] at h
  rw [h]
  have hj2:j<has.data.toList.length:=by simpa using hj
  have hj3:j<has.data.size:=by simpa using hj
  simp only [bytesOf,List.getD_eq_getElem?_getD,List.getElem?_map,Array.getElem?_toList,Array.getElem?_eq_getElem hj3,Option.getD_some,Option.map_some]))
 have HB2:=aA.mk (H6 (aD (aD HB.out (.cells #[.string nm,.string has] 318)) (.cells #[.int .i64 0,.int .i64 xd,.int .i64 xs,.int .i64 xt,.int .i64 xu,.int .i64 xa,.int .u32 xk,.int .i64 xto] 214)) (by have:=HB.out.size;simp;omega) 5 has)
 have HW:=aA.mk HB.out.size
 have HSZ:=aA.mk (show w1.heap.size+1+1<(Lib.bytesWorld ((w1.alloc (.cells #[.string nm,.string has] 318)).alloc (.cells #[.int .i64 0,.int .i64 xd,.int .i64 xs,.int .i64 xt,.int .i64 xu,.int .i64 xa,.int .u32 xk,.int .i64 xto] 214)) 5 has).heap.size from by rw [Lib.bytesWorld_size];simp)
 clear HB
 generalize grownCap _ _ _ _=cap
 generalize Lib.bytesWorld ((w1.alloc (.cells #[.string nm,.string has] 318)).alloc (.cells #[.int .i64 0,.int .i64 xd,.int .i64 xs,.int .i64 xt,.int .i64 xu,.int .i64 xa,.int .u32 xk,.int .i64 xto] 214)) 5 has=wb at BR BY HB2 HSZ ⊢
 generalize w1.heap.size=g1 at BR BY HW HSZ ⊢
 go_loopw [28] (fun i wr=>∃ (j:Nat) (y:dA),j≤has.size∧i= .int .i64 j∧aA (wr.heap[g1+1]?=some (.cells (EP y) 214 (0,0)))∧aA (eB n ((bytesOf has).drop j) y=some r)∧aA (0≤y.k∧y.k<4294967296)∧aA (Mod (fun q=>q=g1+1) wb wr)) (fun i _=>has.size - (intOf i).toNat)
 case atStart=>exact ⟨0,⟨0,xd,xs,xt,xu,xa,xk,xto⟩,Nat.zero_le _,rfl,BR,HR,⟨⟨k0,k1⟩⟩,⟨Mod.refl _ _⟩⟩
 case round=>
  clear BR HR k0 k1
  obtain ⟨j,⟨yop,yd,ys,yt,yu,ya,yk,yto⟩,hj,rfl,BR,HG,HKK,MD⟩:=hrel
  by_cases hlt:j<has.size
  ·have hlt2:j<(bytesOf has).length:=by simpa [bytesOf] using hlt
   have HJ:=aA.mk hlt
   have hT:decide ((j:Int)<(has.size:Int))=true:=decide_eq_true (by omega)
   have hb1:(j:Int)<(has.size:Int):=by omega
   have hz1:(has.size:Int)≤8:=by omega
   have yb:=(MD.out.cell (p:=⟨g1+1+1,j,none⟩) HSZ.out (by simp)).trans (BY.out j hlt)
   have hsg:=HS.out ((bytesOf has).getD j 0) (by rw [List.getD_eq_getElem?_getD,List.getElem?_eq_getElem hlt2];exact List.getElem_mem _)
   have HD:=aA.mk (show (bytesOf has).drop j=(bytesOf has).getD j 0 :: (bytesOf has).drop (j+1) from by rw [List.drop_eq_getElem_cons hlt2];simp [List.getD_eq_getElem?_getD,hlt2])
   have HG2:=aA.mk (show eB n ((bytesOf has).getD j 0 :: (bytesOf has).drop (j+1)) ⟨yop,yd,ys,yt,yu,ya,yk,yto⟩=some r from by rw [← HD.out];exact HG.out)
   clear HD HG
   generalize (bytesOf has).getD j 0=c at yb hsg HG2
   obtain ⟨kk0,kk1⟩:=HKK.out
   dsimp only at kk0 kk1
   have HBR:=aA.mk (HB2.out.trans (MD.out.below (B:=w.heap.size) (fun q hq=>by have:=HW.out;omega) HB2.out.size))
   have c1:wr.cell? ⟨g1+1,1,none⟩=some (.int .i64 yd):=(aC BR.out 1).trans rfl
   have c2:wr.cell? ⟨g1+1,2,none⟩=some (.int .i64 ys):=(aC BR.out 2).trans rfl
   have c3:wr.cell? ⟨g1+1,3,none⟩=some (.int .i64 yt):=(aC BR.out 3).trans rfl
   have c4:wr.cell? ⟨g1+1,4,none⟩=some (.int .i64 yu):=(aC BR.out 4).trans rfl
   have c5:wr.cell? ⟨g1+1,5,none⟩=some (.int .i64 ya):=(aC BR.out 5).trans rfl
   have c6:wr.cell? ⟨g1+1,6,none⟩=some (.int .u32 yk):=(aC BR.out 6).trans rfl
   have c7:wr.cell? ⟨g1+1,7,none⟩=some (.int .i64 yto):=(aC BR.out 7).trans rfl
   have f1:=aG BR.out 1
   have f2:=aG BR.out 2
   have f3:=aG BR.out 3
   have f4:=aG BR.out 4
   have f5:=aG BR.out 5
   have f6:=aG BR.out 6
   have f7:=aG BR.out 7
   unfold xO at hsg
   rcases hsg with rfl|rfl|rfl|rfl|rfl|rfl|rfl|rfl|rfl|rfl|rfl
   ·by_cases q0:yd<0
    ·have t0:decide (yd<0)=true:=decide_eq_true q0
     have HF:=aA.mk (cC HG2.out (show bC n ⟨yop,yd,ys,yt,yu,ya,yk,yto⟩ 68=false by first|(simp [bC];done)|(simp [bC];omega)))
     clear HG2
     go_wp2_with (first|(go_at_call 210;(first|(with_reducible refine (B8 (g1+1) _).mono ?_));rintro e w9 ⟨rfl,rfl⟩)|(go_at_call 211;refine (vO _).mono ?_;rintro e w9 ⟨rfl,hd⟩;obtain ⟨nq,hnq⟩:=hd.out;subst hnq;clear hd))
     go_ret
     exact ⟨cX HF.out.symm,by repeat (first|exact HBR.out|apply aH|(refine bM (j:=6) ?_ (by have:=HW.out;omega)))⟩
    have t0:decide (yd<0)=false:=decide_eq_false q0
    by_cases q1:7<yd
    ·have t1:decide (7<yd)=true:=decide_eq_true q1
     have HF:=aA.mk (cC HG2.out (show bC n ⟨yop,yd,ys,yt,yu,ya,yk,yto⟩ 68=false by first|(simp [bC];done)|(simp [bC];omega)))
     clear HG2
     go_wp2_with (first|(go_at_call 210;(first|(with_reducible refine (B8 (g1+1) _).mono ?_));rintro e w9 ⟨rfl,rfl⟩)|(go_at_call 211;refine (vO _).mono ?_;rintro e w9 ⟨rfl,hd⟩;obtain ⟨nq,hnq⟩:=hd.out;subst hnq;clear hd))
     go_ret
     exact ⟨cX HF.out.symm,by repeat (first|exact HBR.out|apply aH|(refine bM (j:=6) ?_ (by have:=HW.out;omega)))⟩
    have t1:decide (7<yd)=false:=decide_eq_false q1
    have HN:=aA.mk (show eB n ((bytesOf has).drop (j+1)) (bQ ⟨yop,yd,ys,yt,yu,ya,yk,yto⟩ 68)=some r from dK HG2.out (show bC n ⟨yop,yd,ys,yt,yu,ya,yk,yto⟩ 68=true by first|(simp [bC];done)|(simp [bC];omega)))
    clear HG2
    go_wp2_with (first|(go_at_call 210;(first|(with_reducible refine (B8 (g1+1) _).mono ?_));rintro e w9 ⟨rfl,rfl⟩)|(go_at_call 211;refine (vO _).mono ?_;rintro e w9 ⟨rfl,hd⟩;obtain ⟨nq,hnq⟩:=hd.out;subst hnq;clear hd))
    go_roundw
    case rel=>exact ⟨j+1,bQ ⟨yop,yd,ys,yt,yu,ya,yk,yto⟩ 68,by omega,by go_num,⟨(bE BR.out 1 _).trans rfl⟩,HN,⟨by simp [bQ];try omega⟩,⟨by repeat (first|exact MD.out|apply Mod.drewN|apply Mod.uA)⟩⟩
    case measure=>simp [intOf];omega
   ·by_cases q0:ys<0
    ·have t0:decide (ys<0)=true:=decide_eq_true q0
     have HF:=aA.mk (cC HG2.out (show bC n ⟨yop,yd,ys,yt,yu,ya,yk,yto⟩ 83=false by first|(simp [bC];done)|(simp [bC];omega)))
     clear HG2
     go_wp2_with (first|(go_at_call 210;(first|(with_reducible refine (CN (g1+1) _).mono ?_));rintro e w9 ⟨rfl,rfl⟩)|(go_at_call 211;refine (xS _).mono ?_;rintro e w9 ⟨rfl,hd⟩;obtain ⟨nq,hnq⟩:=hd.out;subst hnq;clear hd))
     go_ret
     exact ⟨cX HF.out.symm,by repeat (first|exact HBR.out|apply aH|(refine bM (j:=6) ?_ (by have:=HW.out;omega)))⟩
    have t0:decide (ys<0)=false:=decide_eq_false q0
    by_cases q1:7<ys
    ·have t1:decide (7<ys)=true:=decide_eq_true q1
     have HF:=aA.mk (cC HG2.out (show bC n ⟨yop,yd,ys,yt,yu,ya,yk,yto⟩ 83=false by first|(simp [bC];done)|(simp [bC];omega)))
     clear HG2
     go_wp2_with (first|(go_at_call 210;(first|(with_reducible refine (CN (g1+1) _).mono ?_));rintro e w9 ⟨rfl,rfl⟩)|(go_at_call 211;refine (xS _).mono ?_;rintro e w9 ⟨rfl,hd⟩;obtain ⟨nq,hnq⟩:=hd.out;subst hnq;clear hd))
     go_ret
     exact ⟨cX HF.out.symm,by repeat (first|exact HBR.out|apply aH|(refine bM (j:=6) ?_ (by have:=HW.out;omega)))⟩
    have t1:decide (7<ys)=false:=decide_eq_false q1
    have HN:=aA.mk (show eB n ((bytesOf has).drop (j+1)) (bQ ⟨yop,yd,ys,yt,yu,ya,yk,yto⟩ 83)=some r from dK HG2.out (show bC n ⟨yop,yd,ys,yt,yu,ya,yk,yto⟩ 83=true by first|(simp [bC];done)|(simp [bC];omega)))
    clear HG2
    go_wp2_with (first|(go_at_call 210;(first|(with_reducible refine (CN (g1+1) _).mono ?_));rintro e w9 ⟨rfl,rfl⟩)|(go_at_call 211;refine (xS _).mono ?_;rintro e w9 ⟨rfl,hd⟩;obtain ⟨nq,hnq⟩:=hd.out;subst hnq;clear hd))
    go_roundw
    case rel=>exact ⟨j+1,bQ ⟨yop,yd,ys,yt,yu,ya,yk,yto⟩ 83,by omega,by go_num,⟨(bE BR.out 2 _).trans rfl⟩,HN,⟨by simp [bQ];try omega⟩,⟨by repeat (first|exact MD.out|apply Mod.drewN|apply Mod.uA)⟩⟩
    case measure=>simp [intOf];omega
   ·by_cases q0:yt<0
    ·have t0:decide (yt<0)=true:=decide_eq_true q0
     have HF:=aA.mk (cC HG2.out (show bC n ⟨yop,yd,ys,yt,yu,ya,yk,yto⟩ 84=false by first|(simp [bC];done)|(simp [bC];omega)))
     clear HG2
     go_wp2_with (first|(go_at_call 210;(first|(with_reducible refine (jD (g1+1) _).mono ?_));rintro e w9 ⟨rfl,rfl⟩)|(go_at_call 211;refine (vV _).mono ?_;rintro e w9 ⟨rfl,hd⟩;obtain ⟨nq,hnq⟩:=hd.out;subst hnq;clear hd))
     go_ret
     exact ⟨cX HF.out.symm,by repeat (first|exact HBR.out|apply aH|(refine bM (j:=6) ?_ (by have:=HW.out;omega)))⟩
    have t0:decide (yt<0)=false:=decide_eq_false q0
    by_cases q1:7<yt
    ·have t1:decide (7<yt)=true:=decide_eq_true q1
     have HF:=aA.mk (cC HG2.out (show bC n ⟨yop,yd,ys,yt,yu,ya,yk,yto⟩ 84=false by first|(simp [bC];done)|(simp [bC];omega)))
     clear HG2
     go_wp2_with (first|(go_at_call 210;(first|(with_reducible refine (jD (g1+1) _).mono ?_));rintro e w9 ⟨rfl,rfl⟩)|(go_at_call 211;refine (vV _).mono ?_;rintro e w9 ⟨rfl,hd⟩;obtain ⟨nq,hnq⟩:=hd.out;subst hnq;clear hd))
     go_ret
     exact ⟨cX HF.out.symm,by repeat (first|exact HBR.out|apply aH|(refine bM (j:=6) ?_ (by have:=HW.out;omega)))⟩
    have t1:decide (7<yt)=false:=decide_eq_false q1
    have HN:=aA.mk (show eB n ((bytesOf has).drop (j+1)) (bQ ⟨yop,yd,ys,yt,yu,ya,yk,yto⟩ 84)=some r from dK HG2.out (show bC n ⟨yop,yd,ys,yt,yu,ya,yk,yto⟩ 84=true by first|(simp [bC];done)|(simp [bC];omega)))
    clear HG2
    go_wp2_with (first|(go_at_call 210;(first|(with_reducible refine (jD (g1+1) _).mono ?_));rintro e w9 ⟨rfl,rfl⟩)|(go_at_call 211;refine (vV _).mono ?_;rintro e w9 ⟨rfl,hd⟩;obtain ⟨nq,hnq⟩:=hd.out;subst hnq;clear hd))
    go_roundw
    case rel=>exact ⟨j+1,bQ ⟨yop,yd,ys,yt,yu,ya,yk,yto⟩ 84,by omega,by go_num,⟨(bE BR.out 3 _).trans rfl⟩,HN,⟨by simp [bQ];try omega⟩,⟨by repeat (first|exact MD.out|apply Mod.drewN|apply Mod.uA)⟩⟩
    case measure=>simp [intOf];omega
   ·by_cases q0:yu<0
    ·have t0:decide (yu<0)=true:=decide_eq_true q0
     have HF:=aA.mk (cC HG2.out (show bC n ⟨yop,yd,ys,yt,yu,ya,yk,yto⟩ 85=false by first|(simp [bC];done)|(simp [bC];omega)))
     clear HG2
     go_wp2_with (first|(go_at_call 210;(first|(with_reducible refine (CO (g1+1) _).mono ?_));rintro e w9 ⟨rfl,rfl⟩)|(go_at_call 211;refine (vU _).mono ?_;rintro e w9 ⟨rfl,hd⟩;obtain ⟨nq,hnq⟩:=hd.out;subst hnq;clear hd))
     go_ret
     exact ⟨cX HF.out.symm,by repeat (first|exact HBR.out|apply aH|(refine bM (j:=6) ?_ (by have:=HW.out;omega)))⟩
    have t0:decide (yu<0)=false:=decide_eq_false q0
    by_cases q1:7<yu
    ·have t1:decide (7<yu)=true:=decide_eq_true q1
     have HF:=aA.mk (cC HG2.out (show bC n ⟨yop,yd,ys,yt,yu,ya,yk,yto⟩ 85=false by first|(simp [bC];done)|(simp [bC];omega)))
     clear HG2
     go_wp2_with (first|(go_at_call 210;(first|(with_reducible refine (CO (g1+1) _).mono ?_));rintro e w9 ⟨rfl,rfl⟩)|(go_at_call 211;refine (vU _).mono ?_;rintro e w9 ⟨rfl,hd⟩;obtain ⟨nq,hnq⟩:=hd.out;subst hnq;clear hd))
     go_ret
     exact ⟨cX HF.out.symm,by repeat (first|exact HBR.out|apply aH|(refine bM (j:=6) ?_ (by have:=HW.out;omega)))⟩
    have t1:decide (7<yu)=false:=decide_eq_false q1
    have HN:=aA.mk (show eB n ((bytesOf has).drop (j+1)) (bQ ⟨yop,yd,ys,yt,yu,ya,yk,yto⟩ 85)=some r from dK HG2.out (show bC n ⟨yop,yd,ys,yt,yu,ya,yk,yto⟩ 85=true by first|(simp [bC];done)|(simp [bC];omega)))
    clear HG2
    go_wp2_with (first|(go_at_call 210;(first|(with_reducible refine (CO (g1+1) _).mono ?_));rintro e w9 ⟨rfl,rfl⟩)|(go_at_call 211;refine (vU _).mono ?_;rintro e w9 ⟨rfl,hd⟩;obtain ⟨nq,hnq⟩:=hd.out;subst hnq;clear hd))
    go_roundw
    case rel=>exact ⟨j+1,bQ ⟨yop,yd,ys,yt,yu,ya,yk,yto⟩ 85,by omega,by go_num,⟨(bE BR.out 4 _).trans rfl⟩,HN,⟨by simp [bQ];try omega⟩,⟨by repeat (first|exact MD.out|apply Mod.drewN|apply Mod.uA)⟩⟩
    case measure=>simp [intOf];omega
   ·by_cases q0:ya<0
    ·have t0:decide (ya<0)=true:=decide_eq_true q0
     have HF:=aA.mk (cC HG2.out (show bC n ⟨yop,yd,ys,yt,yu,ya,yk,yto⟩ 65=false by first|(simp [bC];done)|(simp [bC];omega)))
     clear HG2
     go_wp2_with (first|(go_at_call 210;(first|(with_reducible refine (DN (g1+1) _).mono ?_));rintro e w9 ⟨rfl,rfl⟩)|(go_at_call 211;refine (wV _).mono ?_;rintro e w9 ⟨rfl,hd⟩;obtain ⟨nq,hnq⟩:=hd.out;subst hnq;clear hd))
     go_ret
     exact ⟨cX HF.out.symm,by repeat (first|exact HBR.out|apply aH|(refine bM (j:=6) ?_ (by have:=HW.out;omega)))⟩
    have t0:decide (ya<0)=false:=decide_eq_false q0
    by_cases q1:7<ya
    ·have t1:decide (7<ya)=true:=decide_eq_true q1
     have HF:=aA.mk (cC HG2.out (show bC n ⟨yop,yd,ys,yt,yu,ya,yk,yto⟩ 65=false by first|(simp [bC];done)|(simp [bC];omega)))
     clear HG2
     go_wp2_with (first|(go_at_call 210;(first|(with_reducible refine (DN (g1+1) _).mono ?_));rintro e w9 ⟨rfl,rfl⟩)|(go_at_call 211;refine (wV _).mono ?_;rintro e w9 ⟨rfl,hd⟩;obtain ⟨nq,hnq⟩:=hd.out;subst hnq;clear hd))
     go_ret
     exact ⟨cX HF.out.symm,by repeat (first|exact HBR.out|apply aH|(refine bM (j:=6) ?_ (by have:=HW.out;omega)))⟩
    have t1:decide (7<ya)=false:=decide_eq_false q1
    have HN:=aA.mk (show eB n ((bytesOf has).drop (j+1)) (bQ ⟨yop,yd,ys,yt,yu,ya,yk,yto⟩ 65)=some r from dK HG2.out (show bC n ⟨yop,yd,ys,yt,yu,ya,yk,yto⟩ 65=true by first|(simp [bC];done)|(simp [bC];omega)))
    clear HG2
    go_wp2_with (first|(go_at_call 210;(first|(with_reducible refine (DN (g1+1) _).mono ?_));rintro e w9 ⟨rfl,rfl⟩)|(go_at_call 211;refine (wV _).mono ?_;rintro e w9 ⟨rfl,hd⟩;obtain ⟨nq,hnq⟩:=hd.out;subst hnq;clear hd))
    go_roundw
    case rel=>exact ⟨j+1,bQ ⟨yop,yd,ys,yt,yu,ya,yk,yto⟩ 65,by omega,by go_num,⟨(bE BR.out 5 _).trans rfl⟩,HN,⟨by simp [bQ];try omega⟩,⟨by repeat (first|exact MD.out|apply Mod.drewN|apply Mod.uA)⟩⟩
    case measure=>simp [intOf];omega
   ·have t0:decide (yk<0)=false:=decide_eq_false (by omega)
    have t1:decide (4294967295<yk)=false:=decide_eq_false (by omega)
    have HN:=aA.mk (show eB n ((bytesOf has).drop (j+1)) (bQ ⟨yop,yd,ys,yt,yu,ya,yk,yto⟩ 75)=some r from dK HG2.out (show bC n ⟨yop,yd,ys,yt,yu,ya,yk,yto⟩ 75=true by first|(simp [bC];done)|(simp [bC];omega)))
    clear HG2
    go_wp2_with (first|(go_at_call 210;(first|(with_reducible refine (YO (g1+1) _).mono ?_));rintro e w9 ⟨rfl,rfl⟩)|(go_at_call 211;refine (VE _).mono ?_;rintro e w9 ⟨rfl,hd⟩;obtain ⟨nq,hnq⟩:=hd.out;subst hnq;clear hd))
    go_roundw
    case rel=>exact ⟨j+1,bQ ⟨yop,yd,ys,yt,yu,ya,yk,yto⟩ 75,by omega,by go_num,⟨(bE BR.out 6 _).trans rfl⟩,HN,⟨by simp [bQ];try omega⟩,⟨by repeat (first|exact MD.out|apply Mod.drewN|apply Mod.uA)⟩⟩
    case measure=>simp [intOf];omega
   ·have t0:decide (yk<0)=false:=decide_eq_false (by omega)
    by_cases q1:31<yk
    ·have t1:decide (31<yk)=true:=decide_eq_true q1
     have HF:=aA.mk (cC HG2.out (show bC n ⟨yop,yd,ys,yt,yu,ya,yk,yto⟩ 66=false by first|(simp [bC];done)|(simp [bC];omega)))
     clear HG2
     go_wp2_with (first|(go_at_call 210;(first|(with_reducible refine (KU (g1+1) _).mono ?_));rintro e w9 ⟨rfl,rfl⟩)|(go_at_call 211;refine (FZ _).mono ?_;rintro e w9 ⟨rfl,hd⟩;obtain ⟨nq,hnq⟩:=hd.out;subst hnq;clear hd))
     go_ret
     exact ⟨cX HF.out.symm,by repeat (first|exact HBR.out|apply aH|(refine bM (j:=6) ?_ (by have:=HW.out;omega)))⟩
    have t1:decide (31<yk)=false:=decide_eq_false q1
    have HN:=aA.mk (show eB n ((bytesOf has).drop (j+1)) (bQ ⟨yop,yd,ys,yt,yu,ya,yk,yto⟩ 66)=some r from dK HG2.out (show bC n ⟨yop,yd,ys,yt,yu,ya,yk,yto⟩ 66=true by first|(simp [bC];done)|(simp [bC];omega)))
    clear HG2
    go_wp2_with (first|(go_at_call 210;(first|(with_reducible refine (KU (g1+1) _).mono ?_));rintro e w9 ⟨rfl,rfl⟩)|(go_at_call 211;refine (FZ _).mono ?_;rintro e w9 ⟨rfl,hd⟩;obtain ⟨nq,hnq⟩:=hd.out;subst hnq;clear hd))
    go_roundw
    case rel=>exact ⟨j+1,bQ ⟨yop,yd,ys,yt,yu,ya,yk,yto⟩ 66,by omega,by go_num,⟨(bE BR.out 6 _).trans rfl⟩,HN,⟨by simp [bQ];try omega⟩,⟨by repeat (first|exact MD.out|apply Mod.drewN|apply Mod.uA)⟩⟩
    case measure=>simp [intOf];omega
   ·by_cases q0:yk<1
    ·have t0:decide (yk<1)=true:=decide_eq_true q0
     have HF:=aA.mk (cC HG2.out (show bC n ⟨yop,yd,ys,yt,yu,ya,yk,yto⟩ 77=false by first|(simp [bC];done)|(simp [bC];omega)))
     clear HG2
     go_wp2_with (first|(go_at_call 210;(first|(with_reducible refine (CI (g1+1) _).mono ?_));rintro e w9 ⟨rfl,rfl⟩)|(go_at_call 211;refine (xK _).mono ?_;rintro e w9 ⟨rfl,hd⟩;obtain ⟨nq,hnq⟩:=hd.out;subst hnq;clear hd))
     go_ret
     exact ⟨cX HF.out.symm,by repeat (first|exact HBR.out|apply aH|(refine bM (j:=6) ?_ (by have:=HW.out;omega)))⟩
    have t0:decide (yk<1)=false:=decide_eq_false q0
    by_cases q1:4<yk
    ·have t1:decide (4<yk)=true:=decide_eq_true q1
     have HF:=aA.mk (cC HG2.out (show bC n ⟨yop,yd,ys,yt,yu,ya,yk,yto⟩ 77=false by first|(simp [bC];done)|(simp [bC];omega)))
     clear HG2
     go_wp2_with (first|(go_at_call 210;(first|(with_reducible refine (CI (g1+1) _).mono ?_));rintro e w9 ⟨rfl,rfl⟩)|(go_at_call 211;refine (xK _).mono ?_;rintro e w9 ⟨rfl,hd⟩;obtain ⟨nq,hnq⟩:=hd.out;subst hnq;clear hd))
     go_ret
     exact ⟨cX HF.out.symm,by repeat (first|exact HBR.out|apply aH|(refine bM (j:=6) ?_ (by have:=HW.out;omega)))⟩
    have t1:decide (4<yk)=false:=decide_eq_false q1
    have HN:=aA.mk (show eB n ((bytesOf has).drop (j+1)) (bQ ⟨yop,yd,ys,yt,yu,ya,yk,yto⟩ 77)=some r from dK HG2.out (show bC n ⟨yop,yd,ys,yt,yu,ya,yk,yto⟩ 77=true by first|(simp [bC];done)|(simp [bC];omega)))
    clear HG2
    go_wp2_with (first|(go_at_call 210;(first|(with_reducible refine (CI (g1+1) _).mono ?_));rintro e w9 ⟨rfl,rfl⟩)|(go_at_call 211;refine (xK _).mono ?_;rintro e w9 ⟨rfl,hd⟩;obtain ⟨nq,hnq⟩:=hd.out;subst hnq;clear hd))
    go_roundw
    case rel=>exact ⟨j+1,bQ ⟨yop,yd,ys,yt,yu,ya,yk,yto⟩ 77,by omega,by go_num,⟨(bE BR.out 6 _).trans rfl⟩,HN,⟨by simp [bQ];try omega⟩,⟨by repeat (first|exact MD.out|apply Mod.drewN|apply Mod.uA)⟩⟩
    case measure=>simp [intOf];omega
   ·have t0:decide (yk<0)=false:=decide_eq_false (by omega)
    by_cases q1:3<yk
    ·have t1:decide (3<yk)=true:=decide_eq_true q1
     have HF:=aA.mk (cC HG2.out (show bC n ⟨yop,yd,ys,yt,yu,ya,yk,yto⟩ 79=false by first|(simp [bC];done)|(simp [bC];omega)))
     clear HG2
     go_wp2_with (first|(go_at_call 210;(first|(with_reducible refine (LJ (g1+1) _).mono ?_));rintro e w9 ⟨rfl,rfl⟩)|(go_at_call 211;refine (D8 _).mono ?_;rintro e w9 ⟨rfl,hd⟩;obtain ⟨nq,hnq⟩:=hd.out;subst hnq;clear hd))
     go_ret
     exact ⟨cX HF.out.symm,by repeat (first|exact HBR.out|apply aH|(refine bM (j:=6) ?_ (by have:=HW.out;omega)))⟩
    have t1:decide (3<yk)=false:=decide_eq_false q1
    have HN:=aA.mk (show eB n ((bytesOf has).drop (j+1)) (bQ ⟨yop,yd,ys,yt,yu,ya,yk,yto⟩ 79)=some r from dK HG2.out (show bC n ⟨yop,yd,ys,yt,yu,ya,yk,yto⟩ 79=true by first|(simp [bC];done)|(simp [bC];omega)))
    clear HG2
    go_wp2_with (first|(go_at_call 210;(first|(with_reducible refine (LJ (g1+1) _).mono ?_));rintro e w9 ⟨rfl,rfl⟩)|(go_at_call 211;refine (D8 _).mono ?_;rintro e w9 ⟨rfl,hd⟩;obtain ⟨nq,hnq⟩:=hd.out;subst hnq;clear hd))
    go_roundw
    case rel=>exact ⟨j+1,bQ ⟨yop,yd,ys,yt,yu,ya,yk,yto⟩ 79,by omega,by go_num,⟨(bE BR.out 6 _).trans rfl⟩,HN,⟨by simp [bQ];try omega⟩,⟨by repeat (first|exact MD.out|apply Mod.drewN|apply Mod.uA)⟩⟩
    case measure=>simp [intOf];omega
   ·have t0:decide (yk<0)=false:=decide_eq_false (by omega)
    by_cases q1:1<yk
    ·have t1:decide (1<yk)=true:=decide_eq_true q1
     have HF:=aA.mk (cC HG2.out (show bC n ⟨yop,yd,ys,yt,yu,ya,yk,yto⟩ 87=false by first|(simp [bC];done)|(simp [bC];omega)))
     clear HG2
     go_wp2_with (first|(go_at_call 210;(first|(with_reducible refine (mJ (g1+1) _).mono ?_)|(with_reducible refine (jD (g1+1) _).mono ?_));rintro e w9 ⟨rfl,rfl⟩)|(go_at_call 211;refine (lE _).mono ?_;rintro e w9 ⟨rfl,hd⟩;obtain ⟨nq,hnq⟩:=hd.out;subst hnq;clear hd))
     go_ret
     exact ⟨cX HF.out.symm,by repeat (first|exact HBR.out|apply aH|(refine bM (j:=6) ?_ (by have:=HW.out;omega)))⟩
    have t1:decide (1<yk)=false:=decide_eq_false q1
    by_cases q2:yt<0
    ·have t2:decide (yt<0)=true:=decide_eq_true q2
     have HF:=aA.mk (cC HG2.out (show bC n ⟨yop,yd,ys,yt,yu,ya,yk,yto⟩ 87=false by first|(simp [bC];done)|(simp [bC];omega)))
     clear HG2
     go_wp2_with (first|(go_at_call 210;(first|(with_reducible refine (mJ (g1+1) _).mono ?_)|(with_reducible refine (jD (g1+1) _).mono ?_));rintro e w9 ⟨rfl,rfl⟩)|(go_at_call 211;refine (lE _).mono ?_;rintro e w9 ⟨rfl,hd⟩;obtain ⟨nq,hnq⟩:=hd.out;subst hnq;clear hd))
     go_ret
     exact ⟨cX HF.out.symm,by repeat (first|exact HBR.out|apply aH|(refine bM (j:=6) ?_ (by have:=HW.out;omega)))⟩
    have t2:decide (yt<0)=false:=decide_eq_false q2
    by_cases q3:7<yt
    ·have t3:decide (7<yt)=true:=decide_eq_true q3
     have HF:=aA.mk (cC HG2.out (show bC n ⟨yop,yd,ys,yt,yu,ya,yk,yto⟩ 87=false by first|(simp [bC];done)|(simp [bC];omega)))
     clear HG2
     go_wp2_with (first|(go_at_call 210;(first|(with_reducible refine (mJ (g1+1) _).mono ?_)|(with_reducible refine (jD (g1+1) _).mono ?_));rintro e w9 ⟨rfl,rfl⟩)|(go_at_call 211;refine (lE _).mono ?_;rintro e w9 ⟨rfl,hd⟩;obtain ⟨nq,hnq⟩:=hd.out;subst hnq;clear hd))
     go_ret
     exact ⟨cX HF.out.symm,by repeat (first|exact HBR.out|apply aH|(refine bM (j:=6) ?_ (by have:=HW.out;omega)))⟩
    have t3:decide (7<yt)=false:=decide_eq_false q3
    by_cases q4:yto< -1
    ·have t4:decide (yto< -1)=true:=decide_eq_true q4
     have HF:=aA.mk (cC HG2.out (show bC n ⟨yop,yd,ys,yt,yu,ya,yk,yto⟩ 87=false by first|(simp [bC];done)|(simp [bC];omega)))
     clear HG2
     go_wp2_with (first|(go_at_call 210;(first|(with_reducible refine (mJ (g1+1) _).mono ?_)|(with_reducible refine (jD (g1+1) _).mono ?_));rintro e w9 ⟨rfl,rfl⟩)|(go_at_call 211;refine (lE _).mono ?_;rintro e w9 ⟨rfl,hd⟩;obtain ⟨nq,hnq⟩:=hd.out;subst hnq;clear hd))
     go_ret
     exact ⟨cX HF.out.symm,by repeat (first|exact HBR.out|apply aH|(refine bM (j:=6) ?_ (by have:=HW.out;omega)))⟩
    have t4:decide (yto< -1)=false:=decide_eq_false q4
    by_cases q8:yto= -1
    ·have t8:(yto != -1)=false:=bne_eq_false_iff_eq.mpr q8
     have HN:=aA.mk (show eB n ((bytesOf has).drop (j+1)) (bQ ⟨yop,yd,ys,yt,yu,ya,yk,yto⟩ 87)=some r from dK HG2.out (show bC n ⟨yop,yd,ys,yt,yu,ya,yk,yto⟩ 87=true by first|(simp [bC];done)|(simp [bC];omega)))
     clear HG2
     go_wp2_with (first|(go_at_call 210;(first|(with_reducible refine (mJ (g1+1) _).mono ?_)|(with_reducible refine (jD (g1+1) _).mono ?_));rintro e w9 ⟨rfl,rfl⟩)|(go_at_call 211;refine (lE _).mono ?_;rintro e w9 ⟨rfl,hd⟩;obtain ⟨nq,hnq⟩:=hd.out;subst hnq;clear hd))
     go_roundw
     case rel=>exact ⟨j+1,bQ ⟨yop,yd,ys,yt,yu,ya,yk,yto⟩ 87,by omega,by go_num,⟨(bE (bE (bE BR.out 6 _) 3 _) 7 _).trans rfl⟩,HN,⟨by simp [bQ];try omega⟩,⟨by repeat (first|exact MD.out|apply Mod.drewN|apply Mod.uA)⟩⟩
     case measure=>simp [intOf];omega
    have t8:(yto != -1)=true:=bne_iff_ne.mpr q8
    by_cases q9:n≤yto
    ·have t9:decide (n≤yto)=true:=decide_eq_true q9
     have HF:=aA.mk (cC HG2.out (show bC n ⟨yop,yd,ys,yt,yu,ya,yk,yto⟩ 87=false by first|(simp [bC];done)|(simp [bC];omega)))
     clear HG2
     go_wp2_with (first|(go_at_call 210;(first|(with_reducible refine (mJ (g1+1) _).mono ?_)|(with_reducible refine (jD (g1+1) _).mono ?_));rintro e w9 ⟨rfl,rfl⟩)|(go_at_call 211;refine (lE _).mono ?_;rintro e w9 ⟨rfl,hd⟩;obtain ⟨nq,hnq⟩:=hd.out;subst hnq;clear hd))
     go_ret
     exact ⟨cX HF.out.symm,by repeat (first|exact HBR.out|apply aH|(refine bM (j:=6) ?_ (by have:=HW.out;omega)))⟩
    have t9:decide (n≤yto)=false:=decide_eq_false q9
    have HN:=aA.mk (show eB n ((bytesOf has).drop (j+1)) (bQ ⟨yop,yd,ys,yt,yu,ya,yk,yto⟩ 87)=some r from dK HG2.out (show bC n ⟨yop,yd,ys,yt,yu,ya,yk,yto⟩ 87=true by first|(simp [bC];done)|(simp [bC];omega)))
    clear HG2
    go_wp2_with (first|(go_at_call 210;(first|(with_reducible refine (mJ (g1+1) _).mono ?_)|(with_reducible refine (jD (g1+1) _).mono ?_));rintro e w9 ⟨rfl,rfl⟩)|(go_at_call 211;refine (lE _).mono ?_;rintro e w9 ⟨rfl,hd⟩;obtain ⟨nq,hnq⟩:=hd.out;subst hnq;clear hd))
    go_roundw
    case rel=>exact ⟨j+1,bQ ⟨yop,yd,ys,yt,yu,ya,yk,yto⟩ 87,by omega,by go_num,⟨(bE (bE (bE BR.out 6 _) 3 _) 7 _).trans rfl⟩,HN,⟨by simp [bQ];try omega⟩,⟨by repeat (first|exact MD.out|apply Mod.drewN|apply Mod.uA)⟩⟩
    case measure=>simp [intOf];omega
   ·by_cases q0:yto<0
    ·have t0:decide (yto<0)=true:=decide_eq_true q0
     have HF:=aA.mk (cC HG2.out (show bC n ⟨yop,yd,ys,yt,yu,ya,yk,yto⟩ 80=false by first|(simp [bC];done)|(simp [bC];omega)))
     clear HG2
     go_wp2_with (first|(go_at_call 210;(first|(with_reducible refine (CT (g1+1) _).mono ?_));rintro e w9 ⟨rfl,rfl⟩)|(go_at_call 211;refine (uT _).mono ?_;rintro e w9 ⟨rfl,hd⟩;obtain ⟨nq,hnq⟩:=hd.out;subst hnq;clear hd))
     go_ret
     exact ⟨cX HF.out.symm,by repeat (first|exact HBR.out|apply aH|(refine bM (j:=6) ?_ (by have:=HW.out;omega)))⟩
    have t0:decide (yto<0)=false:=decide_eq_false q0
    by_cases q1:n≤yto
    ·have t1:decide (n≤yto)=true:=decide_eq_true q1
     have HF:=aA.mk (cC HG2.out (show bC n ⟨yop,yd,ys,yt,yu,ya,yk,yto⟩ 80=false by first|(simp [bC];done)|(simp [bC];omega)))
     clear HG2
     go_wp2_with (first|(go_at_call 210;(first|(with_reducible refine (CT (g1+1) _).mono ?_));rintro e w9 ⟨rfl,rfl⟩)|(go_at_call 211;refine (uT _).mono ?_;rintro e w9 ⟨rfl,hd⟩;obtain ⟨nq,hnq⟩:=hd.out;subst hnq;clear hd))
     go_ret
     exact ⟨cX HF.out.symm,by repeat (first|exact HBR.out|apply aH|(refine bM (j:=6) ?_ (by have:=HW.out;omega)))⟩
    have t1:decide (n≤yto)=false:=decide_eq_false q1
    have HN:=aA.mk (show eB n ((bytesOf has).drop (j+1)) (bQ ⟨yop,yd,ys,yt,yu,ya,yk,yto⟩ 80)=some r from dK HG2.out (show bC n ⟨yop,yd,ys,yt,yu,ya,yk,yto⟩ 80=true by first|(simp [bC];done)|(simp [bC];omega)))
    clear HG2
    go_wp2_with (first|(go_at_call 210;(first|(with_reducible refine (CT (g1+1) _).mono ?_));rintro e w9 ⟨rfl,rfl⟩)|(go_at_call 211;refine (uT _).mono ?_;rintro e w9 ⟨rfl,hd⟩;obtain ⟨nq,hnq⟩:=hd.out;subst hnq;clear hd))
    go_roundw
    case rel=>exact ⟨j+1,bQ ⟨yop,yd,ys,yt,yu,ya,yk,yto⟩ 80,by omega,by go_num,⟨(bE BR.out 7 _).trans rfl⟩,HN,⟨by simp [bQ];try omega⟩,⟨by repeat (first|exact MD.out|apply Mod.drewN|apply Mod.uA)⟩⟩
    case measure=>simp [intOf];omega
  ·have ej:j=has.size:=by omega
   subst ej
   have hT:decide ((has.size:Int)<(has.size:Int))=false:=decide_eq_false (by omega)
   have hdr:(bytesOf has).drop has.size= []:=List.drop_eq_nil_of_le (by simp [bytesOf])
   have hg:=HG.out
   rw [hdr] at hg
   unfold eB at hg
   by_cases hz:(⟨yop,yd,ys,yt,yu,ya,yk,yto⟩:dA)=eQ
   ·rw [if_pos hz] at hg
    cases hg
    obtain ⟨rfl,rfl,rfl,rfl,rfl,rfl,rfl,rfl⟩:=dA.mk.inj hz
    have HBR:=aA.mk (HB2.out.trans (MD.out.below (B:=w.heap.size) (fun q hq=>by have:=HW.out;omega) HB2.out.size))
    have c0:=(aC BR.out 0).trans rfl
    have c1:=(aC BR.out 1).trans rfl
    have c2:=(aC BR.out 2).trans rfl
    have c3:=(aC BR.out 3).trans rfl
    have c4:=(aC BR.out 4).trans rfl
    have c5:=(aC BR.out 5).trans rfl
    have c6:=(aC BR.out 6).trans rfl
    have c7:=(aC BR.out 7).trans rfl
    have hq:=fun W=>RX W
    clear hdr hz
    go_wp2
    go_ret
    exact ⟨rfl,HBR.out⟩
   ·rw [if_neg hz] at hg;cases hg
end Go.Proofs.YtjopodnlffaogaaGreatDoor.Tp
end
