/- A part of the proof of TopSame: TmAcc, TmAcc2, TmAcc3, TmBegin. -/
import Derived.Test.YtjopodnlffaogaaGreatDoorSM3
set_option linter.unusedVariables false
set_option linter.unusedSimpArgs false
set_option maxRecDepth 100000
set_option maxHeartbeats 4000000
section
namespace Go.Proofs.YtjopodnlffaogaaGreatDoor.Tp
open Go.RowKit Go.Proofs.YtjopodnlffaogaaGreatDoorW.PrintWords Go.Proofs.YtjopodnlffaogaaGreatDoorW.PrintLast Go.Proofs.YtjopodnlffaogaaGreatDoorW.PrintMore
attribute [local go_sem] aU aQ aY aX aI aJ aT aN
theorem OO (c:Cr) (i:Nat) (hi:i<8) (v:Int):#[Value.int .u32 c.r0,.int .u32 c.r1,.int .u32 c.r2,.int .u32 c.r3,.int .u32 c.r4,.int .u32 c.r5,.int .u32 c.r6,.int .u32 c.r7,.int .i64 c.pc].setIfInBounds i (.int .u32 v)=#[Value.int .u32 (c.set i v).r0,.int .u32 (c.set i v).r1,.int .u32 (c.set i v).r2,.int .u32 (c.set i v).r3,.int .u32 (c.set i v).r4,.int .u32 (c.set i v).r5,.int .u32 (c.set i v).r6,.int .u32 (c.set i v).r7,.int .i64 (c.set i v).pc]:=by
 rcases (by omega:i=0∨i=1∨i=2∨i=3∨i=4∨i=5∨i=6∨i=7) with rfl|rfl|rfl|rfl|rfl|rfl|rfl|rfl <;> rfl
theorem kE (c:Cr) (i:Nat) (hi:i<8):#[Value.int .u32 c.r0,.int .u32 c.r1,.int .u32 c.r2,.int .u32 c.r3,.int .u32 c.r4,.int .u32 c.r5,.int .u32 c.r6,.int .u32 c.r7,.int .i64 c.pc][i]?=some (.int .u32 (c.get i)):=by
 rcases (by omega:i=0∨i=1∨i=2∨i=3∨i=4∨i=5∨i=6∨i=7) with rfl|rfl|rfl|rfl|rfl|rfl|rfl|rfl <;> rfl
abbrev crC (c:Cr):Array Value:=#[.int .u32 c.r0,.int .u32 c.r1,.int .u32 c.r2,.int .u32 c.r3,.int .u32 c.r4,.int .u32 c.r5,.int .u32 c.r6,.int .u32 c.r7,.int .i64 c.pc]
abbrev outC (dn a:Int) (wr st:Bool):Array Value:=#[.slice none 0 0,.int .i64 dn,.int .i64 a,.bool wr,.bool st,.int .i64 0]
structure cN (W:World) (be bm bc gc g1 g2:Nat) (c:Cr) (xs:List Int) (a:Nat) (dn:Int) (wr st:Bool):Prop where
 e:∃ v0 v1 v2 v4 v5,W.heap[be]?=some (.cells #[v0,v1,v2,.pointer (some ⟨bm,0,none⟩),v4,v5] 149 (0,0))
 m:∃ v1 v2,W.heap[bm]?=some (.cells #[.pointer (some ⟨bc,0,none⟩),v1,v2] 261 (0,0))
 k:W.heap[bc]?=some (.cells (dD gc xs.length) 310 (0,0))
 x:W.heap[gc]?=some (.cells (cU xs) 314 (0,0))
 c1:W.heap[g1]?=some (.cells (crC c) 192 (0,0))
 o:W.heap[g2]?=some (.cells (outC dn (a:Int) wr st) 136 (0,0))
section
variable {W W':World} {be bm bc gc g1 g2 a:Nat} {c:Cr} {xs:List Int} {dn:Int} {wr st:Bool}
theorem cN.yC (h:cN W be bm bc gc g1 g2 c xs a dn wr st) (d:Nat) (d8:d<8) (v:Int):cN (W.setCell ⟨g1,d,none⟩ (.int .u32 v)) be bm bc gc g1 g2 (c.set d v) xs a dn wr st:=by
 obtain ⟨⟨v0,v1,v2,v4,v5,he⟩,⟨u1,u2,hm⟩,hk,hx,h1,h2⟩:=h
 exact ⟨⟨_,_,_,_,_,bB (p:=⟨g1,d,none⟩) he (aK he h1 (by decide)) _⟩,⟨_,_,bB (p:=⟨g1,d,none⟩) hm (aK hm h1 (by decide)) _⟩,bB (p:=⟨g1,d,none⟩) hk (aK hk h1 (by decide)) _,bB (p:=⟨g1,d,none⟩) hx (aK hx h1 (by decide)) _,(bE h1 d _).trans (by rw [OO c d d8]),bB (p:=⟨g1,d,none⟩) h2 (aK h2 h1 (by decide)) _⟩
theorem cN.TK (h:cN W be bm bc gc g1 g2 c xs a dn wr st) (v:Int):cN (W.setCell ⟨g1,8,none⟩ (.int .i64 v)) be bm bc gc g1 g2 (c.goto v) xs a dn wr st:=by
 obtain ⟨⟨v0,v1,v2,v4,v5,he⟩,⟨u1,u2,hm⟩,hk,hx,h1,h2⟩:=h
 exact ⟨⟨_,_,_,_,_,bB (p:=⟨g1,8,none⟩) he (aK he h1 (by decide)) _⟩,⟨_,_,bB (p:=⟨g1,8,none⟩) hm (aK hm h1 (by decide)) _⟩,bB (p:=⟨g1,8,none⟩) hk (aK hk h1 (by decide)) _,bB (p:=⟨g1,8,none⟩) hx (aK hx h1 (by decide)) _,(bE h1 8 _).trans rfl,bB (p:=⟨g1,8,none⟩) h2 (aK h2 h1 (by decide)) _⟩
theorem cN.out (h:cN W be bm bc gc g1 g2 c xs a dn wr st) (j:Nat) (v:Value) {dn':Int} {wr' st':Bool} (hs:(outC dn (a:Int) wr st).setIfInBounds j v=outC dn' (a:Int) wr' st'):cN (W.setCell ⟨g2,j,none⟩ v) be bm bc gc g1 g2 c xs a dn' wr' st':=by
 obtain ⟨⟨v0,v1,v2,v4,v5,he⟩,⟨u1,u2,hm⟩,hk,hx,h1,h2⟩:=h
 exact ⟨⟨_,_,_,_,_,bB (p:=⟨g2,j,none⟩) he (aK he h2 (by decide)) _⟩,⟨_,_,bB (p:=⟨g2,j,none⟩) hm (aK hm h2 (by decide)) _⟩,bB (p:=⟨g2,j,none⟩) hk (aK hk h2 (by decide)) _,bB (p:=⟨g2,j,none⟩) hx (aK hx h2 (by decide)) _,bB (p:=⟨g2,j,none⟩) h1 (aK h1 h2 (by decide)) _,(bE h2 j _).trans (by rw [hs])⟩
theorem cN.below (h:cN W be bm bc gc g1 g2 c xs a dn wr st) (hb:Below W.heap.size W W'):cN W' be bm bc gc g1 g2 c xs a dn wr st:=by
 obtain ⟨⟨v0,v1,v2,v4,v5,he⟩,⟨u1,u2,hm⟩,hk,hx,h1,h2⟩:=h
 exact ⟨⟨_,_,_,_,_,aE he hb⟩,⟨_,_,aE hm hb⟩,aE hk hb,aE hx hb,aE h1 hb,aE h2 hb⟩
theorem cN.cells {xs':List Int} (h:cN W be bm bc gc g1 g2 c xs a dn wr st) (hm':Mod (fun q=>q=gc) W W') (hx':W'.heap[gc]?=some (.cells (cU xs') 314 (0,0))) (hl:xs'.length=xs.length):cN W' be bm bc gc g1 g2 c xs' a dn wr st:=by
 obtain ⟨⟨v0,v1,v2,v4,v5,he⟩,⟨u1,u2,hm⟩,hk,hx,h1,h2⟩:=h
 have n1:be≠gc:=aK he hx (by decide)
 have n2:bm≠gc:=aK hm hx (by decide)
 have n3:bc≠gc:=aK hk hx (by decide)
 have n4:g1≠gc:=aK h1 hx (by decide)
 have n5:g2≠gc:=aK h2 hx (by decide)
 exact ⟨⟨_,_,_,_,_,hm'.bI he n1⟩,⟨_,_,hm'.bI hm n2⟩,by rw [hl];exact hm'.bI hk n3,hx',hm'.bI h1 n4,hm'.bI h2 n5⟩
end
theorem TE (be bm bc gc g1 g2:Nat) (c:Cr) (xs:List Int) (a d t u:Nat) (s ar k to_:Int) (late wr:Bool) (w:World) (h:cN w be bm bc gc g1 g2 c xs a 0 wr false) (ha:a<xs.length) (hn:xs.length≤8192) (d8:d<8) (t8:t<8) (u8:u<8):
  Calls Tryz.prog 127 #[.pointer (some ⟨be,0,none⟩),.pointer (some ⟨g1,0,none⟩),.agg #[.int .i64 16,.int .i64 (d:Int),.int .i64 s,.int .i64 (t:Int),.int .i64 (u:Int),.int .i64 ar,.int .u32 k,.int .i64 to_],.pointer (some ⟨g2,0,none⟩),.bool late] w fun e w'=>
   e= .returned (.bool false)∧Mod (fun q=>q=gc∨q=g1∨q=g2) w w'∧cN w' be bm bc gc g1 g2 (c.set d (xs.getD a 0)) xs a 0 false false:=by
 have HN:=aA.mk (⟨ha,hn⟩:a<xs.length∧xs.length≤8192)
 have H0:=aA.mk (fun nq:Nat=>show cN (((w.alloc (.cells #[.int .i64 16,.int .i64 (d:Int),.int .i64 s,.int .i64 (t:Int),.int .i64 (u:Int),.int .i64 ar,.int .u32 k,.int .i64 to_] 214)).drewN nq).setCell ⟨g2,3,none⟩ (.bool true)) be bm bc gc g1 g2 c xs a 0 true false from (h.below (W':=(w.alloc _).drewN nq) (aH (aD (Below.refl _ _) _) nq)).out 3 _ rfl)
 have M0:=aA.mk (fun nq:Nat=>show Mod (fun q=>q=gc∨q=g1∨q=g2) w (((w.alloc (.cells #[.int .i64 16,.int .i64 (d:Int),.int .i64 s,.int .i64 (t:Int),.int .i64 (u:Int),.int .i64 ar,.int .u32 k,.int .i64 to_] 214)).drewN nq).setCell ⟨g2,3,none⟩ (.bool true)) from (((Mod.refl _ w).alloc _).drewN nq).setCell (p:=⟨g2,3,none⟩) (Or.inr (Or.inr rfl)) _)
 obtain ⟨⟨v0,v1,v2,v4,v5,he⟩,⟨u1,u2,hm⟩,hk,hx,h1,h2⟩:=h
 have a3:=(aC he 3).trans rfl
 have m0:=(aC hm 0).trans rfl
 obtain ⟨o0,of0,o1,of1,o2,of2,o3,of3,o4,of4,o5,of5⟩:=fW h2
 have cd:=(aC h1 d).trans (kE c d d8)
 have ct:=(aC h1 t).trans (kE c t t8)
 have cu:=(aC h1 u).trans (kE c u u8)
 have cp:w.cell? ⟨g1,8,none⟩=some (.int .i64 c.pc):=(aC h1 8).trans rfl
 have fd:=aG h1 d
 have fp:=aG h1 8
 obtain ⟨z0,z1⟩:((0:Int)≤(d:Int))∧((d:Int)<8):=by omega
 obtain ⟨z2,z3⟩:((0:Int)≤(t:Int))∧((t:Int)<8):=by omega
 obtain ⟨z4,z5⟩:((0:Int)≤(u:Int))∧((u:Int)<8):=by omega
 have ne1:be≠g2:=aK he h2 (by decide)
 have ne2:bm≠g2:=aK hm h2 (by decide)
 have ne5:g1≠g2:=aK h1 h2 (by decide)
 have nf5:g2≠g1:=ne5.symm
 have nf1:be≠g1:=aK he h1 (by decide)
 have nf2:bm≠g1:=aK hm h1 (by decide)
 have b1:=aZ h1
 have b2:=aZ h2
 have be_:=aZ he
 have bm_:=aZ hm
 clear he hm hk hx h1 h2 ha hn
 go_enter Tryz.func127,Tryz.ntmps127
 go_wp2_with fail
 go_quiet (fail)
 go_wp2_with (go_at_call 184;refine (H4 bc gc xs.length a xs _ (H0.out _).k (H0.out _).x rfl HN.out.1 HN.out.2).mono ?_;rintro e w9 ⟨rfl,rfl⟩)
 go_ret
 exact ⟨rfl,((M0.out _).setCell (p:=⟨g1,d,none⟩) (Or.inr (Or.inl rfl)) _).setCell (p:=⟨g2,3,none⟩) (Or.inr (Or.inr rfl)) _,((H0.out _).yC d d8 _).out 3 _ rfl⟩
theorem PY (be bm bc gc g1 g2:Nat) (c:Cr) (xs:List Int) (a d t u:Nat) (s ar k to_:Int) (late wr:Bool) (w:World) (h:cN w be bm bc gc g1 g2 c xs a 0 wr false) (ha:a<xs.length) (hn:xs.length≤8192) (d8:d<8) (t8:t<8) (u8:u<8):
  Calls Tryz.prog 127 #[.pointer (some ⟨be,0,none⟩),.pointer (some ⟨g1,0,none⟩),.agg #[.int .i64 17,.int .i64 (d:Int),.int .i64 s,.int .i64 (t:Int),.int .i64 (u:Int),.int .i64 ar,.int .u32 k,.int .i64 to_],.pointer (some ⟨g2,0,none⟩),.bool late] w fun e w'=>
   e= .returned (.bool false)∧Mod (fun q=>q=gc∨q=g1∨q=g2) w w'∧cN w' be bm bc gc g1 g2 c (xs.set a (c.get t)) a 0 true false:=by
 have HN:=aA.mk (⟨ha,hn⟩:a<xs.length∧xs.length≤8192)
 have H0:=aA.mk (fun nq:Nat=>show cN (((w.alloc (.cells #[.int .i64 17,.int .i64 (d:Int),.int .i64 s,.int .i64 (t:Int),.int .i64 (u:Int),.int .i64 ar,.int .u32 k,.int .i64 to_] 214)).drewN nq).setCell ⟨g2,3,none⟩ (.bool true)) be bm bc gc g1 g2 c xs a 0 true false from (h.below (W':=(w.alloc _).drewN nq) (aH (aD (Below.refl _ _) _) nq)).out 3 _ rfl)
 have M0:=aA.mk (fun nq:Nat=>show Mod (fun q=>q=gc∨q=g1∨q=g2) w (((w.alloc (.cells #[.int .i64 17,.int .i64 (d:Int),.int .i64 s,.int .i64 (t:Int),.int .i64 (u:Int),.int .i64 ar,.int .u32 k,.int .i64 to_] 214)).drewN nq).setCell ⟨g2,3,none⟩ (.bool true)) from (((Mod.refl _ w).alloc _).drewN nq).setCell (p:=⟨g2,3,none⟩) (Or.inr (Or.inr rfl)) _)
 obtain ⟨⟨v0,v1,v2,v4,v5,he⟩,⟨u1,u2,hm⟩,hk,hx,h1,h2⟩:=h
 have a3:=(aC he 3).trans rfl
 have m0:=(aC hm 0).trans rfl
 obtain ⟨o0,of0,o1,of1,o2,of2,o3,of3,o4,of4,o5,of5⟩:=fW h2
 have cd:=(aC h1 d).trans (kE c d d8)
 have ct:=(aC h1 t).trans (kE c t t8)
 have cu:=(aC h1 u).trans (kE c u u8)
 have cp:w.cell? ⟨g1,8,none⟩=some (.int .i64 c.pc):=(aC h1 8).trans rfl
 have fd:=aG h1 d
 have fp:=aG h1 8
 obtain ⟨z0,z1⟩:((0:Int)≤(d:Int))∧((d:Int)<8):=by omega
 obtain ⟨z2,z3⟩:((0:Int)≤(t:Int))∧((t:Int)<8):=by omega
 obtain ⟨z4,z5⟩:((0:Int)≤(u:Int))∧((u:Int)<8):=by omega
 have ne1:be≠g2:=aK he h2 (by decide)
 have ne2:bm≠g2:=aK hm h2 (by decide)
 have ne5:g1≠g2:=aK h1 h2 (by decide)
 have nf5:g2≠g1:=ne5.symm
 have nf1:be≠g1:=aK he h1 (by decide)
 have nf2:bm≠g1:=aK hm h1 (by decide)
 have b1:=aZ h1
 have b2:=aZ h2
 have be_:=aZ he
 have bm_:=aZ hm
 clear he hm hk hx h1 h2 ha hn
 go_enter Tryz.func127,Tryz.ntmps127
 go_wp2_with fail
 go_quiet (fail)
 go_wp2_with (go_at_call 173;refine (Q2 bc gc xs.length a xs (c.get t) _ (H0.out _).k (H0.out _).x rfl HN.out.1 HN.out.2).mono ?_;rintro e w9 ⟨rfl,hm,hx⟩;have HM:=aA.mk hm;have HX:=aA.mk hx;clear hm hx)
 go_ret
 exact ⟨rfl,(M0.out _).trans HM.out (fun _ _ h=>Or.inl h),(H0.out _).cells HM.out HX.out (by simp)⟩
theorem VQ (be bm bc gc g1 g2:Nat) (c:Cr) (xs:List Int) (a d t u:Nat) (s ar k to_:Int) (late wr:Bool) (w:World) (h:cN w be bm bc gc g1 g2 c xs a 0 wr false) (ha:a<xs.length) (hn:xs.length≤8192) (d8:d<8) (t8:t<8) (u8:u<8):
  Calls Tryz.prog 127 #[.pointer (some ⟨be,0,none⟩),.pointer (some ⟨g1,0,none⟩),.agg #[.int .i64 18,.int .i64 (d:Int),.int .i64 s,.int .i64 (t:Int),.int .i64 (u:Int),.int .i64 ar,.int .u32 k,.int .i64 to_],.pointer (some ⟨g2,0,none⟩),.bool late] w fun e w'=>
   e= .returned (.bool false)∧Mod (fun q=>q=gc∨q=g1∨q=g2) w w'∧cN w' be bm bc gc g1 g2 (c.set d (xs.getD a 0)) (xs.set a (c.get t)) a 0 true false:=by
 have HN:=aA.mk (⟨ha,hn⟩:a<xs.length∧xs.length≤8192)
 have H0:=aA.mk (fun nq:Nat=>show cN (((w.alloc (.cells #[.int .i64 18,.int .i64 (d:Int),.int .i64 s,.int .i64 (t:Int),.int .i64 (u:Int),.int .i64 ar,.int .u32 k,.int .i64 to_] 214)).drewN nq).setCell ⟨g2,3,none⟩ (.bool true)) be bm bc gc g1 g2 c xs a 0 true false from (h.below (W':=(w.alloc _).drewN nq) (aH (aD (Below.refl _ _) _) nq)).out 3 _ rfl)
 have M0:=aA.mk (fun nq:Nat=>show Mod (fun q=>q=gc∨q=g1∨q=g2) w (((w.alloc (.cells #[.int .i64 18,.int .i64 (d:Int),.int .i64 s,.int .i64 (t:Int),.int .i64 (u:Int),.int .i64 ar,.int .u32 k,.int .i64 to_] 214)).drewN nq).setCell ⟨g2,3,none⟩ (.bool true)) from (((Mod.refl _ w).alloc _).drewN nq).setCell (p:=⟨g2,3,none⟩) (Or.inr (Or.inr rfl)) _)
 obtain ⟨⟨v0,v1,v2,v4,v5,he⟩,⟨u1,u2,hm⟩,hk,hx,h1,h2⟩:=h
 have a3:=(aC he 3).trans rfl
 have m0:=(aC hm 0).trans rfl
 obtain ⟨o0,of0,o1,of1,o2,of2,o3,of3,o4,of4,o5,of5⟩:=fW h2
 have cd:=(aC h1 d).trans (kE c d d8)
 have ct:=(aC h1 t).trans (kE c t t8)
 have cu:=(aC h1 u).trans (kE c u u8)
 have cp:w.cell? ⟨g1,8,none⟩=some (.int .i64 c.pc):=(aC h1 8).trans rfl
 have fd:=aG h1 d
 have fp:=aG h1 8
 obtain ⟨z0,z1⟩:((0:Int)≤(d:Int))∧((d:Int)<8):=by omega
 obtain ⟨z2,z3⟩:((0:Int)≤(t:Int))∧((t:Int)<8):=by omega
 obtain ⟨z4,z5⟩:((0:Int)≤(u:Int))∧((u:Int)<8):=by omega
 have ne1:be≠g2:=aK he h2 (by decide)
 have ne2:bm≠g2:=aK hm h2 (by decide)
 have ne5:g1≠g2:=aK h1 h2 (by decide)
 have nf5:g2≠g1:=ne5.symm
 have nf1:be≠g1:=aK he h1 (by decide)
 have nf2:bm≠g1:=aK hm h1 (by decide)
 have b1:=aZ h1
 have b2:=aZ h2
 have be_:=aZ he
 have bm_:=aZ hm
 clear he hm hk hx h1 h2 ha hn
 go_enter Tryz.func127,Tryz.ntmps127
 go_wp2_with fail
 go_quiet (fail)
 go_wp2_with (go_at_call 185;refine (cSwap bc gc xs.length a xs (c.get t) _ (H0.out _).k (H0.out _).x rfl HN.out.1 HN.out.2).mono ?_;rintro e w9 ⟨rfl,hm,hx⟩;have HA:=aA.mk ((H0.out _).cells hm hx (by simp));have HM:=aA.mk ((M0.out _).trans hm (fun _ _ h=>Or.inl h));clear hm hx cd fd;have cd:=(aC HA.out.c1 d).trans (kE c d d8);have fd:=aG HA.out.c1 d)
 go_ret
 exact ⟨rfl,HM.out.setCell (p:=⟨g1,d,none⟩) (Or.inr (Or.inl rfl)) _,HA.out.yC d d8 _⟩
theorem set_set (c:Cr) (d:Nat) (d8:d<8) (x y:Int):(c.set d x).set d y=c.set d y:=by
 rcases (by omega:d=0∨d=1∨d=2∨d=3∨d=4∨d=5∨d=6∨d=7) with rfl|rfl|rfl|rfl|rfl|rfl|rfl|rfl <;> rfl
theorem FA (be bm bc gc g1 g2:Nat) (c:Cr) (xs:List Int) (a d t u:Nat) (s ar k to_:Int) (late wr:Bool) (w:World) (h:cN w be bm bc gc g1 g2 c xs a 0 wr false) (ha:a<xs.length) (hn:xs.length≤8192) (d8:d<8) (t8:t<8) (u8:u<8) (he_:xs.getD a 0=c.get t):
  Calls Tryz.prog 127 #[.pointer (some ⟨be,0,none⟩),.pointer (some ⟨g1,0,none⟩),.agg #[.int .i64 19,.int .i64 (d:Int),.int .i64 s,.int .i64 (t:Int),.int .i64 (u:Int),.int .i64 ar,.int .u32 k,.int .i64 to_],.pointer (some ⟨g2,0,none⟩),.bool late] w fun e w'=>
   e= .returned (.bool false)∧Mod (fun q=>q=gc∨q=g1∨q=g2) w w'∧cN w' be bm bc gc g1 g2 (c.set d 1) (xs.set a (c.get u)) a 0 true false:=by
 have HN:=aA.mk (⟨ha,hn⟩:a<xs.length∧xs.length≤8192)
 have H0:=aA.mk (fun nq:Nat=>show cN (((w.alloc (.cells #[.int .i64 19,.int .i64 (d:Int),.int .i64 s,.int .i64 (t:Int),.int .i64 (u:Int),.int .i64 ar,.int .u32 k,.int .i64 to_] 214)).drewN nq).setCell ⟨g2,3,none⟩ (.bool true)) be bm bc gc g1 g2 c xs a 0 true false from (h.below (W':=(w.alloc _).drewN nq) (aH (aD (Below.refl _ _) _) nq)).out 3 _ rfl)
 have M0:=aA.mk (fun nq:Nat=>show Mod (fun q=>q=gc∨q=g1∨q=g2) w (((w.alloc (.cells #[.int .i64 19,.int .i64 (d:Int),.int .i64 s,.int .i64 (t:Int),.int .i64 (u:Int),.int .i64 ar,.int .u32 k,.int .i64 to_] 214)).drewN nq).setCell ⟨g2,3,none⟩ (.bool true)) from (((Mod.refl _ w).alloc _).drewN nq).setCell (p:=⟨g2,3,none⟩) (Or.inr (Or.inr rfl)) _)
 obtain ⟨⟨v0,v1,v2,v4,v5,he⟩,⟨u1,u2,hm⟩,hk,hx,h1,h2⟩:=h
 have a3:=(aC he 3).trans rfl
 have m0:=(aC hm 0).trans rfl
 obtain ⟨o0,of0,o1,of1,o2,of2,o3,of3,o4,of4,o5,of5⟩:=fW h2
 have cd:=(aC h1 d).trans (kE c d d8)
 have ct:=(aC h1 t).trans (kE c t t8)
 have cu:=(aC h1 u).trans (kE c u u8)
 have cp:w.cell? ⟨g1,8,none⟩=some (.int .i64 c.pc):=(aC h1 8).trans rfl
 have fd:=aG h1 d
 have fp:=aG h1 8
 obtain ⟨z0,z1⟩:((0:Int)≤(d:Int))∧((d:Int)<8):=by omega
 obtain ⟨z2,z3⟩:((0:Int)≤(t:Int))∧((t:Int)<8):=by omega
 obtain ⟨z4,z5⟩:((0:Int)≤(u:Int))∧((u:Int)<8):=by omega
 have ne1:be≠g2:=aK he h2 (by decide)
 have ne2:bm≠g2:=aK hm h2 (by decide)
 have ne5:g1≠g2:=aK h1 h2 (by decide)
 have nf5:g2≠g1:=ne5.symm
 have nf1:be≠g1:=aK he h1 (by decide)
 have nf2:bm≠g1:=aK hm h1 (by decide)
 have b1:=aZ h1
 have b2:=aZ h2
 have be_:=aZ he
 have bm_:=aZ hm
 clear he hm hk hx h1 h2 ha hn
 go_enter Tryz.func127,Tryz.ntmps127
 go_wp2_with fail
 go_quiet (fail)
 go_wp2_with fail
 have B0:=aA.mk (show (((w.alloc (.cells #[.int .i64 19,.int .i64 (d:Int),.int .i64 s,.int .i64 (t:Int),.int .i64 (u:Int),.int .i64 ar,.int .u32 k,.int .i64 to_] 214)).drewN nq).setCell ⟨g2,3,none⟩ (.bool true)).heap[w.heap.size]?=some (.cells #[.int .i64 19,.int .i64 (d:Int),.int .i64 s,.int .i64 (t:Int),.int .i64 (u:Int),.int .i64 ar,.int .u32 k,.int .i64 to_] 214 (0,0)) from bB (p:=⟨g2,3,none⟩) (l8 (bF w _) nq) (Nat.ne_of_gt b2) (.bool true))
 have H1:=aA.mk (H0.out nq)
 have M1:=aA.mk (M0.out nq)
 clear H0 M0 a3 m0 o0 of0 o1 of1 o2 of2 o3 of3 o4 of4 o5 of5 cd ct cu cp fd fp b1 b2 be_ bm_
 generalize ((w.alloc (.cells #[.int .i64 19,.int .i64 (d:Int),.int .i64 s,.int .i64 (t:Int),.int .i64 (u:Int),.int .i64 ar,.int .u32 k,.int .i64 to_] 214)).drewN nq).setCell ⟨g2,3,none⟩ (.bool true)=w1 at B0 H1 M1 ⊢
 obtain ⟨⟨v0,v1,v2,v4,v5,he⟩,⟨u1,u2,hm⟩,hk,hx,h1,h2⟩:=id H1.out
 have a3:=(aC he 3).trans rfl
 have m0:=(aC hm 0).trans rfl
 have cd:=(aC h1 d).trans (kE c d d8)
 have ct:=(aC h1 t).trans (kE c t t8)
 have cu:=(aC h1 u).trans (kE c u u8)
 have fd:=aG h1 d
 have b4:w1.cell? ⟨w.heap.size,4,none⟩=some (.int .i64 (u:Int)):=(aC B0.out 4).trans rfl
 have b6:w1.cell? ⟨w.heap.size,6,none⟩=some (.int .u32 k):=(aC B0.out 6).trans rfl
 have b7:w1.cell? ⟨w.heap.size,7,none⟩=some (.int .i64 to_):=(aC B0.out 7).trans rfl
 have o3:=(aC h2 3).trans rfl
 have of3:=aG h2 3
 replace he:=aA.mk he
 replace hm:=aA.mk hm
 replace h1:=aA.mk h1
 clear hk hx h2 a3 m0 cd ct cu fd b4 b6 b7 o3 of3 ne1 ne2 ne5 nf5 nf1 nf2
 refine dB (n:=21) (S:=fun w'=>w'.heap[be]?=some (.cells #[v0,v1,v2,.pointer (some ⟨bm,0,none⟩),v4,v5] 149 (0,0))∧w'.heap[bm]?=some (.cells #[.pointer (some ⟨bc,0,none⟩),u1,u2] 261 (0,0))∧w'.heap[g1]?=some (.cells (crC c) 192 (0,0))∧w'.heap[w.heap.size]?=some (.cells #[.int .i64 19,.int .i64 (d:Int),.int .i64 s,.int .i64 (t:Int),.int .i64 (u:Int),.int .i64 ar,.int .u32 k,.int .i64 to_] 214 (0,0))) (ds:= [20]) #[false,false,false,false,false,false,false,false,false,false,false,false,false,false,false,false,false,false,false,false,false] (by kernel_rfl) rfl rfl ⟨he.out,hm.out,h1.out,B0.out⟩ (fun hHeld=>?_)
 replace he:=aA.mk (show (w1.drew).heap[be]?=some (.cells #[v0,v1,v2,.pointer (some ⟨bm,0,none⟩),v4,v5] 149 (0,0)) from he.out)
 replace hm:=aA.mk (show (w1.drew).heap[bm]?=some (.cells #[.pointer (some ⟨bc,0,none⟩),u1,u2] 261 (0,0)) from hm.out)
 replace h1:=aA.mk (show (w1.drew).heap[g1]?=some (.cells (crC c) 192 (0,0)) from h1.out)
 replace B0:=aA.mk (show (w1.drew).heap[w.heap.size]?=some (.cells #[.int .i64 19,.int .i64 (d:Int),.int .i64 s,.int .i64 (t:Int),.int .i64 (u:Int),.int .i64 ar,.int .u32 k,.int .i64 to_] 214 (0,0)) from B0.out)
 replace H1:=aA.mk (H1.out.below (bG (Below.refl _ _)))
 replace M1:=aA.mk M1.out.drew
 generalize w1.drew=w2 at he hm h1 B0 H1 M1 hHeld ⊢
 refine pur_ 0 80 ?_
 refine pur_ 1 81 ?_
 refine pur_ 2 82 ?_
 refine pur_ 3 83 ?_
 refine pur_ 8 88 ?_
 refine pur_ 9 89 ?_
 refine pur_ 10 90 ?_
 refine pur_ 11 91 ?_
 refine pur_ 13 93 ?_
 refine pur_ 14 94 ?_
 refine tak_ 4 84 (.pointer (some ⟨bm,0,none⟩)) ?_ hHeld ?_
 ·intro w' hS
  have x3:=(aC hS.1 3).trans rfl
  clear hHeld hS
  go_simp
 refine pur_ 5 85 ?_
 refine pur_ 6 86 ?_
 refine tak_ 7 87 (.pointer (some ⟨bc,0,none⟩)) ?_ hHeld ?_
 ·intro w' hS
  have x0:=(aC hS.2.1 0).trans rfl
  clear hHeld hS
  go_simp
 refine tak_ 12 92 (.int .i64 (u:Int)) ?_ hHeld ?_
 ·intro w' hS
  have x4:=(aC hS.2.2.2 4).trans rfl
  clear hHeld hS
  go_simp
 refine pur_ 15 95 ?_
 refine tak_ 16 96 (.int .u32 (c.get u)) ?_ hHeld ?_
 ·intro w' hS
  have xu:=(aC hS.2.2.1 u).trans (kE c u u8)
  clear hHeld hS
  go_simp
 refine on_ 17 97 (fun K hK=>?_)
 refine goe_ Tryz.func186 #[.pointer (some ⟨bc,0,none⟩),.int .i64 (a:Int),.int .u32 (c.get t),.int .u32 (c.get u)] ?_
 refine (SY bc gc xs.length a xs (c.get t) (c.get u) _ H1.out.k H1.out.x rfl HN.out.1 HN.out.2 he_).mono ?_
 rintro e w9 ⟨rfl,hm9,hx9⟩
 refine ⟨_,rfl,?_⟩
 replace he:=aA.mk (hm9.bI he.out (aK he.out H1.out.x (by decide)))
 replace hm:=aA.mk (hm9.bI hm.out (aK hm.out H1.out.x (by decide)))
 replace h1:=aA.mk (hm9.bI h1.out (aK h1.out H1.out.x (by decide)))
 replace B0:=aA.mk (hm9.bI B0.out (aK B0.out H1.out.x (by decide)))
 replace H1:=aA.mk (H1.out.cells hm9 hx9 (by simp))
 replace M1:=aA.mk (M1.out.trans hm9 (fun _ _ h=>Or.inl h))
 clear hm9 hx9 hHeld
 refine hK.out _ _ ⟨he.out,hm.out,h1.out,B0.out⟩ (fun hHeld=>?_)
 clear hK K
 refine nor_ ?_
 refine pur_ 18 98 ?_
 refine pur_ 19 99 ?_
 clear he hm h1 B0
 refine fX (i:=20) (N:=none) #[true,true,true,true,true,true,true,true,true,true,true,true,true,true,true,true,true,true,true,true,true] rfl rfl (by kernel_rfl) (by decide) (fun K hK=>?_)
 refine iH (w1:=w9.setCell ⟨g2,3,none⟩ (.bool true)) (by rfl) rfl ?_ ?_
 ·clear hK hHeld
  have cj:=(aC H1.out.o 3).trans rfl
  have fj:=aG H1.out.o 3
  go_simp
 replace H1:=aA.mk (H1.out.out 3 (.bool true) rfl)
 replace M1:=aA.mk (M1.out.setCell (p:=⟨g2,3,none⟩) (Or.inr (Or.inr rfl)) (.bool true))
 clear hHeld
 generalize w9.setCell ⟨g2,3,none⟩ (.bool true)=w3 at H1 M1 ⊢
 refine hK.out _ _ ?_
 clear hK K
 refine eO (by kernel_rfl) ?_
 have n5:g1≠g2:=aK H1.out.c1 H1.out.o (by decide)
 have n6:=n5.symm
 have fd:=aG H1.out.c1 d
 have cd:=(aC H1.out.c1 d).trans (kE c d d8)
 have o3:=(aC H1.out.o 3).trans rfl
 go_wp2
 go_ret
 exact ⟨rfl,(M1.out.setCell (p:=⟨g1,d,none⟩) (Or.inr (Or.inl rfl)) _).setCell (p:=⟨g1,d,none⟩) (Or.inr (Or.inl rfl)) _,by have:=(H1.out.yC d d8 0).yC d d8 1;rw [set_set c d d8] at this;exact this⟩
theorem CW (be bm bc gc g1 g2:Nat) (c:Cr) (xs:List Int) (a d t u:Nat) (s ar k to_:Int) (late wr:Bool) (w:World) (h:cN w be bm bc gc g1 g2 c xs a 0 wr false) (ha:a<xs.length) (hn:xs.length≤8192) (d8:d<8) (t8:t<8) (u8:u<8) (he_:¬ xs.getD a 0=c.get t):
  Calls Tryz.prog 127 #[.pointer (some ⟨be,0,none⟩),.pointer (some ⟨g1,0,none⟩),.agg #[.int .i64 19,.int .i64 (d:Int),.int .i64 s,.int .i64 (t:Int),.int .i64 (u:Int),.int .i64 ar,.int .u32 k,.int .i64 to_],.pointer (some ⟨g2,0,none⟩),.bool late] w fun e w'=>
   e= .returned (.bool false)∧Mod (fun q=>q=gc∨q=g1∨q=g2) w w'∧cN w' be bm bc gc g1 g2 (c.set d 0) xs a 0 false false:=by
 have HN:=aA.mk (⟨ha,hn⟩:a<xs.length∧xs.length≤8192)
 have H0:=aA.mk (fun nq:Nat=>show cN (((w.alloc (.cells #[.int .i64 19,.int .i64 (d:Int),.int .i64 s,.int .i64 (t:Int),.int .i64 (u:Int),.int .i64 ar,.int .u32 k,.int .i64 to_] 214)).drewN nq).setCell ⟨g2,3,none⟩ (.bool true)) be bm bc gc g1 g2 c xs a 0 true false from (h.below (W':=(w.alloc _).drewN nq) (aH (aD (Below.refl _ _) _) nq)).out 3 _ rfl)
 have M0:=aA.mk (fun nq:Nat=>show Mod (fun q=>q=gc∨q=g1∨q=g2) w (((w.alloc (.cells #[.int .i64 19,.int .i64 (d:Int),.int .i64 s,.int .i64 (t:Int),.int .i64 (u:Int),.int .i64 ar,.int .u32 k,.int .i64 to_] 214)).drewN nq).setCell ⟨g2,3,none⟩ (.bool true)) from (((Mod.refl _ w).alloc _).drewN nq).setCell (p:=⟨g2,3,none⟩) (Or.inr (Or.inr rfl)) _)
 obtain ⟨⟨v0,v1,v2,v4,v5,he⟩,⟨u1,u2,hm⟩,hk,hx,h1,h2⟩:=h
 have a3:=(aC he 3).trans rfl
 have m0:=(aC hm 0).trans rfl
 obtain ⟨o0,of0,o1,of1,o2,of2,o3,of3,o4,of4,o5,of5⟩:=fW h2
 have cd:=(aC h1 d).trans (kE c d d8)
 have ct:=(aC h1 t).trans (kE c t t8)
 have cu:=(aC h1 u).trans (kE c u u8)
 have cp:w.cell? ⟨g1,8,none⟩=some (.int .i64 c.pc):=(aC h1 8).trans rfl
 have fd:=aG h1 d
 have fp:=aG h1 8
 obtain ⟨z0,z1⟩:((0:Int)≤(d:Int))∧((d:Int)<8):=by omega
 obtain ⟨z2,z3⟩:((0:Int)≤(t:Int))∧((t:Int)<8):=by omega
 obtain ⟨z4,z5⟩:((0:Int)≤(u:Int))∧((u:Int)<8):=by omega
 have ne1:be≠g2:=aK he h2 (by decide)
 have ne2:bm≠g2:=aK hm h2 (by decide)
 have ne5:g1≠g2:=aK h1 h2 (by decide)
 have nf5:g2≠g1:=ne5.symm
 have nf1:be≠g1:=aK he h1 (by decide)
 have nf2:bm≠g1:=aK hm h1 (by decide)
 have b1:=aZ h1
 have b2:=aZ h2
 have be_:=aZ he
 have bm_:=aZ hm
 clear he hm hk hx h1 h2 ha hn
 go_enter Tryz.func127,Tryz.ntmps127
 go_wp2_with fail
 go_quiet (fail)
 go_wp2_with fail
 have B0:=aA.mk (show (((w.alloc (.cells #[.int .i64 19,.int .i64 (d:Int),.int .i64 s,.int .i64 (t:Int),.int .i64 (u:Int),.int .i64 ar,.int .u32 k,.int .i64 to_] 214)).drewN nq).setCell ⟨g2,3,none⟩ (.bool true)).heap[w.heap.size]?=some (.cells #[.int .i64 19,.int .i64 (d:Int),.int .i64 s,.int .i64 (t:Int),.int .i64 (u:Int),.int .i64 ar,.int .u32 k,.int .i64 to_] 214 (0,0)) from bB (p:=⟨g2,3,none⟩) (l8 (bF w _) nq) (Nat.ne_of_gt b2) (.bool true))
 have H1:=aA.mk (H0.out nq)
 have M1:=aA.mk (M0.out nq)
 clear H0 M0 a3 m0 o0 of0 o1 of1 o2 of2 o3 of3 o4 of4 o5 of5 cd ct cu cp fd fp b1 b2 be_ bm_
 generalize ((w.alloc (.cells #[.int .i64 19,.int .i64 (d:Int),.int .i64 s,.int .i64 (t:Int),.int .i64 (u:Int),.int .i64 ar,.int .u32 k,.int .i64 to_] 214)).drewN nq).setCell ⟨g2,3,none⟩ (.bool true)=w1 at B0 H1 M1 ⊢
 obtain ⟨⟨v0,v1,v2,v4,v5,he⟩,⟨u1,u2,hm⟩,hk,hx,h1,h2⟩:=id H1.out
 have a3:=(aC he 3).trans rfl
 have m0:=(aC hm 0).trans rfl
 have cd:=(aC h1 d).trans (kE c d d8)
 have ct:=(aC h1 t).trans (kE c t t8)
 have cu:=(aC h1 u).trans (kE c u u8)
 have fd:=aG h1 d
 have b4:w1.cell? ⟨w.heap.size,4,none⟩=some (.int .i64 (u:Int)):=(aC B0.out 4).trans rfl
 have b6:w1.cell? ⟨w.heap.size,6,none⟩=some (.int .u32 k):=(aC B0.out 6).trans rfl
 have b7:w1.cell? ⟨w.heap.size,7,none⟩=some (.int .i64 to_):=(aC B0.out 7).trans rfl
 have o3:=(aC h2 3).trans rfl
 have of3:=aG h2 3
 replace he:=aA.mk he
 replace hm:=aA.mk hm
 replace h1:=aA.mk h1
 clear hk hx h2 a3 m0 cd ct cu fd b4 b6 b7 o3 of3 ne1 ne2 ne5 nf5 nf1 nf2
 refine dB (n:=21) (S:=fun w'=>w'.heap[be]?=some (.cells #[v0,v1,v2,.pointer (some ⟨bm,0,none⟩),v4,v5] 149 (0,0))∧w'.heap[bm]?=some (.cells #[.pointer (some ⟨bc,0,none⟩),u1,u2] 261 (0,0))∧w'.heap[g1]?=some (.cells (crC c) 192 (0,0))∧w'.heap[w.heap.size]?=some (.cells #[.int .i64 19,.int .i64 (d:Int),.int .i64 s,.int .i64 (t:Int),.int .i64 (u:Int),.int .i64 ar,.int .u32 k,.int .i64 to_] 214 (0,0))) (ds:= [20]) #[false,false,false,false,false,false,false,false,false,false,false,false,false,false,false,false,false,false,false,false,false] (by kernel_rfl) rfl rfl ⟨he.out,hm.out,h1.out,B0.out⟩ (fun hHeld=>?_)
 replace he:=aA.mk (show (w1.drew).heap[be]?=some (.cells #[v0,v1,v2,.pointer (some ⟨bm,0,none⟩),v4,v5] 149 (0,0)) from he.out)
 replace hm:=aA.mk (show (w1.drew).heap[bm]?=some (.cells #[.pointer (some ⟨bc,0,none⟩),u1,u2] 261 (0,0)) from hm.out)
 replace h1:=aA.mk (show (w1.drew).heap[g1]?=some (.cells (crC c) 192 (0,0)) from h1.out)
 replace B0:=aA.mk (show (w1.drew).heap[w.heap.size]?=some (.cells #[.int .i64 19,.int .i64 (d:Int),.int .i64 s,.int .i64 (t:Int),.int .i64 (u:Int),.int .i64 ar,.int .u32 k,.int .i64 to_] 214 (0,0)) from B0.out)
 replace H1:=aA.mk (H1.out.below (bG (Below.refl _ _)))
 replace M1:=aA.mk M1.out.drew
 generalize w1.drew=w2 at he hm h1 B0 H1 M1 hHeld ⊢
 refine pur_ 0 80 ?_
 refine pur_ 1 81 ?_
 refine pur_ 2 82 ?_
 refine pur_ 3 83 ?_
 refine pur_ 8 88 ?_
 refine pur_ 9 89 ?_
 refine pur_ 10 90 ?_
 refine pur_ 11 91 ?_
 refine pur_ 13 93 ?_
 refine pur_ 14 94 ?_
 refine tak_ 4 84 (.pointer (some ⟨bm,0,none⟩)) ?_ hHeld ?_
 ·intro w' hS
  have x3:=(aC hS.1 3).trans rfl
  clear hHeld hS
  go_simp
 refine pur_ 5 85 ?_
 refine pur_ 6 86 ?_
 refine tak_ 7 87 (.pointer (some ⟨bc,0,none⟩)) ?_ hHeld ?_
 ·intro w' hS
  have x0:=(aC hS.2.1 0).trans rfl
  clear hHeld hS
  go_simp
 refine tak_ 12 92 (.int .i64 (u:Int)) ?_ hHeld ?_
 ·intro w' hS
  have x4:=(aC hS.2.2.2 4).trans rfl
  clear hHeld hS
  go_simp
 refine pur_ 15 95 ?_
 refine tak_ 16 96 (.int .u32 (c.get u)) ?_ hHeld ?_
 ·intro w' hS
  have xu:=(aC hS.2.2.1 u).trans (kE c u u8)
  clear hHeld hS
  go_simp
 refine on_ 17 97 (fun K hK=>?_)
 refine goe_ Tryz.func186 #[.pointer (some ⟨bc,0,none⟩),.int .i64 (a:Int),.int .u32 (c.get t),.int .u32 (c.get u)] ?_
 refine (M4 bc gc xs.length a xs (c.get t) (c.get u) _ H1.out.k H1.out.x rfl HN.out.1 HN.out.2 he_).mono ?_
 rintro e w9 ⟨rfl,rfl⟩
 refine ⟨_,rfl,?_⟩
 clear hHeld
 refine hK.out _ _ ⟨he.out,hm.out,h1.out,B0.out⟩ (fun hHeld=>?_)
 clear hK K
 refine nor_ ?_
 refine pur_ 18 98 ?_
 refine pur_ 19 99 ?_
 clear he hm h1 B0
 refine fX (i:=20) (N:=none) #[true,true,true,true,true,true,true,true,true,true,true,true,true,true,true,true,true,true,true,true,true] rfl rfl (by kernel_rfl) (by decide) (fun K hK=>?_)
 refine iH (w1:=w2.setCell ⟨g2,3,none⟩ (.bool false)) (by rfl) rfl ?_ ?_
 ·clear hK hHeld
  have cj:=(aC H1.out.o 3).trans rfl
  have fj:=aG H1.out.o 3
  go_simp
 replace H1:=aA.mk (H1.out.out 3 (.bool false) rfl)
 replace M1:=aA.mk (M1.out.setCell (p:=⟨g2,3,none⟩) (Or.inr (Or.inr rfl)) (.bool false))
 clear hHeld
 generalize w2.setCell ⟨g2,3,none⟩ (.bool false)=w3 at H1 M1 ⊢
 refine hK.out _ _ ?_
 clear hK K
 refine eO (by kernel_rfl) ?_
 have n5:g1≠g2:=aK H1.out.c1 H1.out.o (by decide)
 have n6:=n5.symm
 have fd:=aG H1.out.c1 d
 have cd:=(aC H1.out.c1 d).trans (kE c d d8)
 have o3:=(aC H1.out.o 3).trans rfl
 go_wp2
 go_ret
 exact ⟨rfl,M1.out.setCell (p:=⟨g1,d,none⟩) (Or.inr (Or.inl rfl)) _,H1.out.yC d d8 0⟩
theorem UO (be bm bc gc g1 g2:Nat) (c:Cr) (xs:List Int) (a d t u:Nat) (s ar k to_:Int) (late wr:Bool) (w:World) (h:cN w be bm bc gc g1 g2 c xs a 0 wr false) (ha:a<xs.length) (hn:xs.length≤8192) (d8:d<8) (t8:t<8) (u8:u<8) (he_:0≤xs.getD a 0∧xs.getD a 0<4294967296):
  Calls Tryz.prog 127 #[.pointer (some ⟨be,0,none⟩),.pointer (some ⟨g1,0,none⟩),.agg #[.int .i64 20,.int .i64 (d:Int),.int .i64 s,.int .i64 (t:Int),.int .i64 (u:Int),.int .i64 ar,.int .u32 k,.int .i64 to_],.pointer (some ⟨g2,0,none⟩),.bool late] w fun e w'=>
   e= .returned (.bool false)∧Mod (fun q=>q=gc∨q=g1∨q=g2) w w'∧cN w' be bm bc gc g1 g2 (c.set d (xs.getD a 0)) (xs.set a ((xs.getD a 0+k) % 4294967296)) a 0 true false:=by
 have HN:=aA.mk (⟨ha,hn⟩:a<xs.length∧xs.length≤8192)
 have H0:=aA.mk (fun nq:Nat=>show cN (((w.alloc (.cells #[.int .i64 20,.int .i64 (d:Int),.int .i64 s,.int .i64 (t:Int),.int .i64 (u:Int),.int .i64 ar,.int .u32 k,.int .i64 to_] 214)).drewN nq).setCell ⟨g2,3,none⟩ (.bool true)) be bm bc gc g1 g2 c xs a 0 true false from (h.below (W':=(w.alloc _).drewN nq) (aH (aD (Below.refl _ _) _) nq)).out 3 _ rfl)
 have M0:=aA.mk (fun nq:Nat=>show Mod (fun q=>q=gc∨q=g1∨q=g2) w (((w.alloc (.cells #[.int .i64 20,.int .i64 (d:Int),.int .i64 s,.int .i64 (t:Int),.int .i64 (u:Int),.int .i64 ar,.int .u32 k,.int .i64 to_] 214)).drewN nq).setCell ⟨g2,3,none⟩ (.bool true)) from (((Mod.refl _ w).alloc _).drewN nq).setCell (p:=⟨g2,3,none⟩) (Or.inr (Or.inr rfl)) _)
 obtain ⟨⟨v0,v1,v2,v4,v5,he⟩,⟨u1,u2,hm⟩,hk,hx,h1,h2⟩:=h
 have a3:=(aC he 3).trans rfl
 have m0:=(aC hm 0).trans rfl
 obtain ⟨o0,of0,o1,of1,o2,of2,o3,of3,o4,of4,o5,of5⟩:=fW h2
 have cd:=(aC h1 d).trans (kE c d d8)
 have ct:=(aC h1 t).trans (kE c t t8)
 have cu:=(aC h1 u).trans (kE c u u8)
 have cp:w.cell? ⟨g1,8,none⟩=some (.int .i64 c.pc):=(aC h1 8).trans rfl
 have fd:=aG h1 d
 have fp:=aG h1 8
 obtain ⟨z0,z1⟩:((0:Int)≤(d:Int))∧((d:Int)<8):=by omega
 obtain ⟨z2,z3⟩:((0:Int)≤(t:Int))∧((t:Int)<8):=by omega
 obtain ⟨z4,z5⟩:((0:Int)≤(u:Int))∧((u:Int)<8):=by omega
 have ne1:be≠g2:=aK he h2 (by decide)
 have ne2:bm≠g2:=aK hm h2 (by decide)
 have ne5:g1≠g2:=aK h1 h2 (by decide)
 have nf5:g2≠g1:=ne5.symm
 have nf1:be≠g1:=aK he h1 (by decide)
 have nf2:bm≠g1:=aK hm h1 (by decide)
 have b1:=aZ h1
 have b2:=aZ h2
 have be_:=aZ he
 have bm_:=aZ hm
 clear he hm hk hx h1 h2 ha hn
 go_enter Tryz.func127,Tryz.ntmps127
 go_wp2_with fail
 go_quiet (fail)
 go_wp2_with fail
 have B0:=aA.mk (show (((w.alloc (.cells #[.int .i64 20,.int .i64 (d:Int),.int .i64 s,.int .i64 (t:Int),.int .i64 (u:Int),.int .i64 ar,.int .u32 k,.int .i64 to_] 214)).drewN nq).setCell ⟨g2,3,none⟩ (.bool true)).heap[w.heap.size]?=some (.cells #[.int .i64 20,.int .i64 (d:Int),.int .i64 s,.int .i64 (t:Int),.int .i64 (u:Int),.int .i64 ar,.int .u32 k,.int .i64 to_] 214 (0,0)) from bB (p:=⟨g2,3,none⟩) (l8 (bF w _) nq) (Nat.ne_of_gt b2) (.bool true))
 have H1:=aA.mk (H0.out nq)
 have M1:=aA.mk (M0.out nq)
 clear H0 M0 a3 m0 o0 of0 o1 of1 o2 of2 o3 of3 o4 of4 o5 of5 cd ct cu cp fd fp b1 b2 be_ bm_
 generalize ((w.alloc (.cells #[.int .i64 20,.int .i64 (d:Int),.int .i64 s,.int .i64 (t:Int),.int .i64 (u:Int),.int .i64 ar,.int .u32 k,.int .i64 to_] 214)).drewN nq).setCell ⟨g2,3,none⟩ (.bool true)=w1 at B0 H1 M1 ⊢
 obtain ⟨⟨v0,v1,v2,v4,v5,he⟩,⟨u1,u2,hm⟩,hk,hx,h1,h2⟩:=id H1.out
 have a3:=(aC he 3).trans rfl
 have m0:=(aC hm 0).trans rfl
 have cd:=(aC h1 d).trans (kE c d d8)
 have ct:=(aC h1 t).trans (kE c t t8)
 have cu:=(aC h1 u).trans (kE c u u8)
 have fd:=aG h1 d
 have b4:w1.cell? ⟨w.heap.size,4,none⟩=some (.int .i64 (u:Int)):=(aC B0.out 4).trans rfl
 have b6:w1.cell? ⟨w.heap.size,6,none⟩=some (.int .u32 k):=(aC B0.out 6).trans rfl
 have b7:w1.cell? ⟨w.heap.size,7,none⟩=some (.int .i64 to_):=(aC B0.out 7).trans rfl
 have o3:=(aC h2 3).trans rfl
 have of3:=aG h2 3
 replace he:=aA.mk he
 replace hm:=aA.mk hm
 replace h1:=aA.mk h1
 clear hk hx h2 a3 m0 cd ct cu fd b4 b6 b7 o3 of3 ne1 ne2 ne5 nf5 nf1 nf2
 clear h1
 refine dB (n:=14) (S:=fun w'=>w'.heap[be]?=some (.cells #[v0,v1,v2,.pointer (some ⟨bm,0,none⟩),v4,v5] 149 (0,0))∧w'.heap[bm]?=some (.cells #[.pointer (some ⟨bc,0,none⟩),u1,u2] 261 (0,0))∧w'.heap[w.heap.size]?=some (.cells #[.int .i64 20,.int .i64 (d:Int),.int .i64 s,.int .i64 (t:Int),.int .i64 (u:Int),.int .i64 ar,.int .u32 k,.int .i64 to_] 214 (0,0))) (ds:= [13]) #[false,false,false,false,false,false,false,false,false,false,false,false,false,false] (by kernel_rfl) rfl rfl ⟨he.out,hm.out,B0.out⟩ (fun hHeld=>?_)
 replace he:=aA.mk (show (w1.drew).heap[be]?=some (.cells #[v0,v1,v2,.pointer (some ⟨bm,0,none⟩),v4,v5] 149 (0,0)) from he.out)
 replace hm:=aA.mk (show (w1.drew).heap[bm]?=some (.cells #[.pointer (some ⟨bc,0,none⟩),u1,u2] 261 (0,0)) from hm.out)
 replace B0:=aA.mk (show (w1.drew).heap[w.heap.size]?=some (.cells #[.int .i64 20,.int .i64 (d:Int),.int .i64 s,.int .i64 (t:Int),.int .i64 (u:Int),.int .i64 ar,.int .u32 k,.int .i64 to_] 214 (0,0)) from B0.out)
 replace H1:=aA.mk (H1.out.below (bG (Below.refl _ _)))
 replace M1:=aA.mk M1.out.drew
 generalize w1.drew=w2 at he hm B0 H1 M1 hHeld ⊢
 refine pur_ 0 110 ?_
 refine pur_ 1 111 ?_
 refine pur_ 2 112 ?_
 refine pur_ 3 113 ?_
 refine pur_ 8 118 ?_
 refine pur_ 9 119 ?_
 refine tak_ 4 114 (.pointer (some ⟨bm,0,none⟩)) ?_ hHeld ?_
 ·intro w' hS
  have x3:=(aC hS.1 3).trans rfl
  clear hHeld hS
  go_simp
 refine pur_ 5 115 ?_
 refine pur_ 6 116 ?_
 refine tak_ 7 117 (.pointer (some ⟨bc,0,none⟩)) ?_ hHeld ?_
 ·intro w' hS
  have x0:=(aC hS.2.1 0).trans rfl
  clear hHeld hS
  go_simp
 refine tak_ 10 120 (.int .u32 k) ?_ hHeld ?_
 ·intro w' hS
  have x4:=(aC hS.2.2 6).trans rfl
  clear hHeld hS
  go_simp
 refine on_ 11 121 (fun K hK=>?_)
 refine goe_ Tryz.func187 #[.pointer (some ⟨bc,0,none⟩),.int .i64 (a:Int),.int .u32 k] ?_
 refine (cAdd bc gc xs.length a xs k _ H1.out.k H1.out.x rfl HN.out.1 HN.out.2 he_.1 he_.2).mono ?_
 rintro e w9 ⟨rfl,hm9,hx9⟩
 refine ⟨_,rfl,?_⟩
 replace he:=aA.mk (hm9.bI he.out (aK he.out H1.out.x (by decide)))
 replace hm:=aA.mk (hm9.bI hm.out (aK hm.out H1.out.x (by decide)))
 replace B0:=aA.mk (hm9.bI B0.out (aK B0.out H1.out.x (by decide)))
 replace H1:=aA.mk (H1.out.cells hm9 hx9 (by simp))
 replace M1:=aA.mk (M1.out.trans hm9 (fun _ _ h=>Or.inl h))
 clear hm9 hx9 hHeld
 refine hK.out _ _ ⟨he.out,hm.out,B0.out⟩ (fun hHeld=>?_)
 clear hK K
 refine nor_ ?_
 refine pur_ 12 122 ?_
 clear he hm B0
 refine fX (i:=13) (N:=none) #[true,true,true,true,true,true,true,true,true,true,true,true,true,true] rfl rfl (by kernel_rfl) (by decide) (fun K hK=>?_)
 refine iH (w1:=w9.setCell ⟨g1,d,none⟩ (.int .u32 (xs.getD a 0))) (by rfl) rfl ?_ ?_
 ·clear hK hHeld
  have cj:=(aC H1.out.c1 d).trans (kE c d d8)
  have fj:=aG H1.out.c1 d
  go_simp
 replace H1:=aA.mk (H1.out.yC d d8 (xs.getD a 0))
 replace M1:=aA.mk (M1.out.setCell (p:=⟨g1,d,none⟩) (Or.inr (Or.inl rfl)) (.int .u32 (xs.getD a 0)))
 clear hHeld
 generalize w9.setCell ⟨g1,d,none⟩ (.int .u32 (xs.getD a 0))=w3 at H1 M1 ⊢
 refine hK.out _ _ ?_
 clear hK K
 refine eO (by kernel_rfl) ?_
 go_wp2
 go_ret
 exact ⟨rfl,M1.out,H1.out⟩
theorem DD (be bm bc gc g1 g2:Nat) (c:Cr) (xs:List Int) (a d t u:Nat) (s ar k to_:Int) (late wr:Bool) (w:World) (h:cN w be bm bc gc g1 g2 c xs a 0 wr false) (ha:a<xs.length) (hn:xs.length≤8192) (d8:d<8) (t8:t<8) (u8:u<8) (he_:((xs.getD a 0==c.get t)==(k==0))=true):
  Calls Tryz.prog 127 #[.pointer (some ⟨be,0,none⟩),.pointer (some ⟨g1,0,none⟩),.agg #[.int .i64 21,.int .i64 (d:Int),.int .i64 s,.int .i64 (t:Int),.int .i64 (u:Int),.int .i64 ar,.int .u32 k,.int .i64 to_],.pointer (some ⟨g2,0,none⟩),.bool late] w fun e w'=>
   e= .returned (.bool false)∧Mod (fun q=>q=gc∨q=g1∨q=g2) w w'∧cN w' be bm bc gc g1 g2 (c.set d (xs.getD a 0)) xs a 0 false false:=by
 have HN:=aA.mk (⟨ha,hn⟩:a<xs.length∧xs.length≤8192)
 have H0:=aA.mk (fun nq:Nat=>show cN (((w.alloc (.cells #[.int .i64 21,.int .i64 (d:Int),.int .i64 s,.int .i64 (t:Int),.int .i64 (u:Int),.int .i64 ar,.int .u32 k,.int .i64 to_] 214)).drewN nq).setCell ⟨g2,3,none⟩ (.bool true)) be bm bc gc g1 g2 c xs a 0 true false from (h.below (W':=(w.alloc _).drewN nq) (aH (aD (Below.refl _ _) _) nq)).out 3 _ rfl)
 have M0:=aA.mk (fun nq:Nat=>show Mod (fun q=>q=gc∨q=g1∨q=g2) w (((w.alloc (.cells #[.int .i64 21,.int .i64 (d:Int),.int .i64 s,.int .i64 (t:Int),.int .i64 (u:Int),.int .i64 ar,.int .u32 k,.int .i64 to_] 214)).drewN nq).setCell ⟨g2,3,none⟩ (.bool true)) from (((Mod.refl _ w).alloc _).drewN nq).setCell (p:=⟨g2,3,none⟩) (Or.inr (Or.inr rfl)) _)
 obtain ⟨⟨v0,v1,v2,v4,v5,he⟩,⟨u1,u2,hm⟩,hk,hx,h1,h2⟩:=h
 have a3:=(aC he 3).trans rfl
 have m0:=(aC hm 0).trans rfl
 obtain ⟨o0,of0,o1,of1,o2,of2,o3,of3,o4,of4,o5,of5⟩:=fW h2
 have cd:=(aC h1 d).trans (kE c d d8)
 have ct:=(aC h1 t).trans (kE c t t8)
 have cu:=(aC h1 u).trans (kE c u u8)
 have cp:w.cell? ⟨g1,8,none⟩=some (.int .i64 c.pc):=(aC h1 8).trans rfl
 have fd:=aG h1 d
 have fp:=aG h1 8
 obtain ⟨z0,z1⟩:((0:Int)≤(d:Int))∧((d:Int)<8):=by omega
 obtain ⟨z2,z3⟩:((0:Int)≤(t:Int))∧((t:Int)<8):=by omega
 obtain ⟨z4,z5⟩:((0:Int)≤(u:Int))∧((u:Int)<8):=by omega
 have ne1:be≠g2:=aK he h2 (by decide)
 have ne2:bm≠g2:=aK hm h2 (by decide)
 have ne5:g1≠g2:=aK h1 h2 (by decide)
 have nf5:g2≠g1:=ne5.symm
 have nf1:be≠g1:=aK he h1 (by decide)
 have nf2:bm≠g1:=aK hm h1 (by decide)
 have b1:=aZ h1
 have b2:=aZ h2
 have be_:=aZ he
 have bm_:=aZ hm
 clear he hm hk hx h1 h2 ha hn
 obtain ⟨x,hx_⟩:∃ x,x=xs.getD a 0:=⟨_,rfl⟩
 have P:aA (∀ W:World,W.heap[bc]?=some (.cells (dD gc xs.length) 310 (0,0))→W.heap[gc]?=some (.cells (cU xs) 314 (0,0))→Calls Tryz.prog 184 #[.pointer (some ⟨bc,0,none⟩),.int .i64 (a:Int)] W fun e w'=>e= .returned (.int .u32 x)∧W=w'):=⟨fun W h1 h2=>by rw [hx_];exact H4 bc gc xs.length a xs W h1 h2 rfl HN.out.1 HN.out.2⟩
 rw [← hx_] at he_ ⊢
 clear hx_
 have H2:=aA.mk (fun nq:Nat=>(H0.out nq).out 3 (.bool false) (wr':=false) (st':=false) (dn':=0) rfl)
 have M2:=aA.mk (fun nq:Nat=>(M0.out nq).setCell (p:=⟨g2,3,none⟩) (Or.inr (Or.inr rfl)) (.bool false))
 clear H0 M0
 cases hp:(x==c.get t) <;> cases hq:(k==0) <;> (try (exfalso;rw [hp,hq] at he_;cases he_;done))
 all_goals
  clear he_
  go_enter Tryz.func127,Tryz.ntmps127
  go_wp2_with fail
  go_quiet (fail)
  go_wp2_with (go_at_call 184;refine (P.out _ (H2.out _).k (H2.out _).x).mono ?_;rintro e w9 ⟨rfl,rfl⟩)
  go_quiet (fail)
  go_wp2
  go_ret
  exact ⟨rfl,((M2.out _).setCell (p:=⟨g1,d,none⟩) (Or.inr (Or.inl rfl)) _).drewN _,((H2.out _).yC d d8 _).below (aH (Below.refl _ _) _)⟩
theorem xM (be bm bc gc g1 g2:Nat) (c:Cr) (xs:List Int) (a d t u:Nat) (s ar k to_:Int) (late wr:Bool) (w:World) (h:cN w be bm bc gc g1 g2 c xs a 0 wr false) (ha:a<xs.length) (hn:xs.length≤8192) (d8:d<8) (t8:t<8) (u8:u<8) (he_:((xs.getD a 0==c.get t)==(k==0))=false) (hl_:late=true) (ht_:0≤to_):
  Calls Tryz.prog 127 #[.pointer (some ⟨be,0,none⟩),.pointer (some ⟨g1,0,none⟩),.agg #[.int .i64 21,.int .i64 (d:Int),.int .i64 s,.int .i64 (t:Int),.int .i64 (u:Int),.int .i64 ar,.int .u32 k,.int .i64 to_],.pointer (some ⟨g2,0,none⟩),.bool late] w fun e w'=>
   e= .returned (.bool false)∧Mod (fun q=>q=gc∨q=g1∨q=g2) w w'∧cN w' be bm bc gc g1 g2 ((c.set d (xs.getD a 0)).goto to_) xs a 0 false false:=by
 have HN:=aA.mk (⟨ha,hn⟩:a<xs.length∧xs.length≤8192)
 have H0:=aA.mk (fun nq:Nat=>show cN (((w.alloc (.cells #[.int .i64 21,.int .i64 (d:Int),.int .i64 s,.int .i64 (t:Int),.int .i64 (u:Int),.int .i64 ar,.int .u32 k,.int .i64 to_] 214)).drewN nq).setCell ⟨g2,3,none⟩ (.bool true)) be bm bc gc g1 g2 c xs a 0 true false from (h.below (W':=(w.alloc _).drewN nq) (aH (aD (Below.refl _ _) _) nq)).out 3 _ rfl)
 have M0:=aA.mk (fun nq:Nat=>show Mod (fun q=>q=gc∨q=g1∨q=g2) w (((w.alloc (.cells #[.int .i64 21,.int .i64 (d:Int),.int .i64 s,.int .i64 (t:Int),.int .i64 (u:Int),.int .i64 ar,.int .u32 k,.int .i64 to_] 214)).drewN nq).setCell ⟨g2,3,none⟩ (.bool true)) from (((Mod.refl _ w).alloc _).drewN nq).setCell (p:=⟨g2,3,none⟩) (Or.inr (Or.inr rfl)) _)
 obtain ⟨⟨v0,v1,v2,v4,v5,he⟩,⟨u1,u2,hm⟩,hk,hx,h1,h2⟩:=h
 have a3:=(aC he 3).trans rfl
 have m0:=(aC hm 0).trans rfl
 obtain ⟨o0,of0,o1,of1,o2,of2,o3,of3,o4,of4,o5,of5⟩:=fW h2
 have cd:=(aC h1 d).trans (kE c d d8)
 have ct:=(aC h1 t).trans (kE c t t8)
 have cu:=(aC h1 u).trans (kE c u u8)
 have cp:w.cell? ⟨g1,8,none⟩=some (.int .i64 c.pc):=(aC h1 8).trans rfl
 have fd:=aG h1 d
 have fp:=aG h1 8
 obtain ⟨z0,z1⟩:((0:Int)≤(d:Int))∧((d:Int)<8):=by omega
 obtain ⟨z2,z3⟩:((0:Int)≤(t:Int))∧((t:Int)<8):=by omega
 obtain ⟨z4,z5⟩:((0:Int)≤(u:Int))∧((u:Int)<8):=by omega
 have ne1:be≠g2:=aK he h2 (by decide)
 have ne2:bm≠g2:=aK hm h2 (by decide)
 have ne5:g1≠g2:=aK h1 h2 (by decide)
 have nf5:g2≠g1:=ne5.symm
 have nf1:be≠g1:=aK he h1 (by decide)
 have nf2:bm≠g1:=aK hm h1 (by decide)
 have b1:=aZ h1
 have b2:=aZ h2
 have be_:=aZ he
 have bm_:=aZ hm
 clear he hm hk hx h1 h2 ha hn
 obtain ⟨x,hx_⟩:∃ x,x=xs.getD a 0:=⟨_,rfl⟩
 have P:aA (∀ W:World,W.heap[bc]?=some (.cells (dD gc xs.length) 310 (0,0))→W.heap[gc]?=some (.cells (cU xs) 314 (0,0))→Calls Tryz.prog 184 #[.pointer (some ⟨bc,0,none⟩),.int .i64 (a:Int)] W fun e w'=>e= .returned (.int .u32 x)∧W=w'):=⟨fun W h1 h2=>by rw [hx_];exact H4 bc gc xs.length a xs W h1 h2 rfl HN.out.1 HN.out.2⟩
 rw [← hx_] at he_ ⊢
 clear hx_
 have H2:=aA.mk (fun nq:Nat=>(H0.out nq).out 3 (.bool false) (wr':=false) (st':=false) (dn':=0) rfl)
 have M2:=aA.mk (fun nq:Nat=>(M0.out nq).setCell (p:=⟨g2,3,none⟩) (Or.inr (Or.inr rfl)) (.bool false))
 clear H0 M0
 cases hp:(x==c.get t) <;> cases hq:(k==0) <;> (try (exfalso;rw [hp,hq] at he_;cases he_;done))
 all_goals
  clear he_
  subst hl_
  have e0:decide (to_<0)=false:=decide_eq_false (by omega)
  go_enter Tryz.func127,Tryz.ntmps127
  go_wp2_with fail
  go_quiet (fail)
  go_wp2_with (go_at_call 184;refine (P.out _ (H2.out _).k (H2.out _).x).mono ?_;rintro e w9 ⟨rfl,rfl⟩)
  go_quiet (fail)
  go_wp2
  go_ret
  exact ⟨rfl,(((M2.out _).setCell (p:=⟨g1,d,none⟩) (Or.inr (Or.inl rfl)) _).drewN _).setCell (p:=⟨g1,8,none⟩) (Or.inr (Or.inl rfl)) _,(((H2.out _).yC d d8 _).below (aH (Below.refl _ _) _)).TK _⟩
theorem tR (be bm bc gc g1 g2:Nat) (c:Cr) (xs:List Int) (a d t u:Nat) (s ar k to_:Int) (late wr:Bool) (w:World) (h:cN w be bm bc gc g1 g2 c xs a 0 wr false) (ha:a<xs.length) (hn:xs.length≤8192) (d8:d<8) (t8:t<8) (u8:u<8) (he_:((xs.getD a 0==c.get t)==(k==0))=false) (hp_: -4611686018427387904≤c.pc∧c.pc≤4611686018427387904) (hl_:late=false):
  Calls Tryz.prog 127 #[.pointer (some ⟨be,0,none⟩),.pointer (some ⟨g1,0,none⟩),.agg #[.int .i64 21,.int .i64 (d:Int),.int .i64 s,.int .i64 (t:Int),.int .i64 (u:Int),.int .i64 ar,.int .u32 k,.int .i64 to_],.pointer (some ⟨g2,0,none⟩),.bool late] w fun e w'=>
   e= .returned (.bool true)∧Mod (fun q=>q=gc∨q=g1∨q=g2) w w'∧cN w' be bm bc gc g1 g2 ((c.set d (xs.getD a 0)).goto (c.pc - 1)) xs a (-1) false true:=by
 have HN:=aA.mk (⟨ha,hn⟩:a<xs.length∧xs.length≤8192)
 have H0:=aA.mk (fun nq:Nat=>show cN (((w.alloc (.cells #[.int .i64 21,.int .i64 (d:Int),.int .i64 s,.int .i64 (t:Int),.int .i64 (u:Int),.int .i64 ar,.int .u32 k,.int .i64 to_] 214)).drewN nq).setCell ⟨g2,3,none⟩ (.bool true)) be bm bc gc g1 g2 c xs a 0 true false from (h.below (W':=(w.alloc _).drewN nq) (aH (aD (Below.refl _ _) _) nq)).out 3 _ rfl)
 have M0:=aA.mk (fun nq:Nat=>show Mod (fun q=>q=gc∨q=g1∨q=g2) w (((w.alloc (.cells #[.int .i64 21,.int .i64 (d:Int),.int .i64 s,.int .i64 (t:Int),.int .i64 (u:Int),.int .i64 ar,.int .u32 k,.int .i64 to_] 214)).drewN nq).setCell ⟨g2,3,none⟩ (.bool true)) from (((Mod.refl _ w).alloc _).drewN nq).setCell (p:=⟨g2,3,none⟩) (Or.inr (Or.inr rfl)) _)
 obtain ⟨⟨v0,v1,v2,v4,v5,he⟩,⟨u1,u2,hm⟩,hk,hx,h1,h2⟩:=h
 have a3:=(aC he 3).trans rfl
 have m0:=(aC hm 0).trans rfl
 obtain ⟨o0,of0,o1,of1,o2,of2,o3,of3,o4,of4,o5,of5⟩:=fW h2
 have cd:=(aC h1 d).trans (kE c d d8)
 have ct:=(aC h1 t).trans (kE c t t8)
 have cu:=(aC h1 u).trans (kE c u u8)
 have cp:w.cell? ⟨g1,8,none⟩=some (.int .i64 c.pc):=(aC h1 8).trans rfl
 have fd:=aG h1 d
 have fp:=aG h1 8
 obtain ⟨z0,z1⟩:((0:Int)≤(d:Int))∧((d:Int)<8):=by omega
 obtain ⟨z2,z3⟩:((0:Int)≤(t:Int))∧((t:Int)<8):=by omega
 obtain ⟨z4,z5⟩:((0:Int)≤(u:Int))∧((u:Int)<8):=by omega
 have ne1:be≠g2:=aK he h2 (by decide)
 have ne2:bm≠g2:=aK hm h2 (by decide)
 have ne5:g1≠g2:=aK h1 h2 (by decide)
 have nf5:g2≠g1:=ne5.symm
 have nf1:be≠g1:=aK he h1 (by decide)
 have nf2:bm≠g1:=aK hm h1 (by decide)
 have b1:=aZ h1
 have b2:=aZ h2
 have be_:=aZ he
 have bm_:=aZ hm
 clear he hm hk hx h1 h2 ha hn
 obtain ⟨x,hx_⟩:∃ x,x=xs.getD a 0:=⟨_,rfl⟩
 have P:aA (∀ W:World,W.heap[bc]?=some (.cells (dD gc xs.length) 310 (0,0))→W.heap[gc]?=some (.cells (cU xs) 314 (0,0))→Calls Tryz.prog 184 #[.pointer (some ⟨bc,0,none⟩),.int .i64 (a:Int)] W fun e w'=>e= .returned (.int .u32 x)∧W=w'):=⟨fun W h1 h2=>by rw [hx_];exact H4 bc gc xs.length a xs W h1 h2 rfl HN.out.1 HN.out.2⟩
 rw [← hx_] at he_ ⊢
 clear hx_
 have H2:=aA.mk (fun nq:Nat=>(H0.out nq).out 3 (.bool false) (wr':=false) (st':=false) (dn':=0) rfl)
 have M2:=aA.mk (fun nq:Nat=>(M0.out nq).setCell (p:=⟨g2,3,none⟩) (Or.inr (Or.inr rfl)) (.bool false))
 clear H0 M0
 cases hp:(x==c.get t) <;> cases hq:(k==0) <;> (try (exfalso;rw [hp,hq] at he_;cases he_;done))
 all_goals
  clear he_
  subst hl_
  have hs:IntKind.i64.wrap (c.pc - 1)=c.pc - 1:=IntWalk.i64_in _ (by omega)
  have h8:¬ d=8:=by omega
  have h9:¬ 8=d:=by omega
  go_enter Tryz.func127,Tryz.ntmps127
  go_wp2_with fail
  go_quiet (fail)
  go_wp2_with (go_at_call 184;refine (P.out _ (H2.out _).k (H2.out _).x).mono ?_;rintro e w9 ⟨rfl,rfl⟩)
  go_quiet (fail)
  go_wp2
  go_ret
  exact ⟨rfl,(((((M2.out _).setCell (p:=⟨g1,d,none⟩) (Or.inr (Or.inl rfl)) _).drewN _).setCell (p:=⟨g1,8,none⟩) (Or.inr (Or.inl rfl)) _).setCell (p:=⟨g2,4,none⟩) (Or.inr (Or.inr rfl)) _).setCell (p:=⟨g2,1,none⟩) (Or.inr (Or.inr rfl)) _,(((((H2.out _).yC d d8 x).below (aH (Below.refl _ _) _)).TK (c.pc - 1)).out 4 (.bool true) (dn':=0) (wr':=false) (st':=true) rfl).out 1 (.int .i64 (-1)) (dn':= -1) (wr':=false) (st':=true) rfl⟩
theorem tT (be bm bc gc g1 g2:Nat) (c:Cr) (xs:List Int) (a d t u:Nat) (s ar k to_:Int) (late wr:Bool) (w:World) (h:cN w be bm bc gc g1 g2 c xs a 0 wr false) (ha:a<xs.length) (hn:xs.length≤8192) (d8:d<8) (t8:t<8) (u8:u<8) (he_:((xs.getD a 0==c.get t)==(k==0))=false) (hp_: -4611686018427387904≤c.pc∧c.pc≤4611686018427387904) (hl_:late=true) (ht_:to_<0):
  Calls Tryz.prog 127 #[.pointer (some ⟨be,0,none⟩),.pointer (some ⟨g1,0,none⟩),.agg #[.int .i64 21,.int .i64 (d:Int),.int .i64 s,.int .i64 (t:Int),.int .i64 (u:Int),.int .i64 ar,.int .u32 k,.int .i64 to_],.pointer (some ⟨g2,0,none⟩),.bool late] w fun e w'=>
   e= .returned (.bool true)∧Mod (fun q=>q=gc∨q=g1∨q=g2) w w'∧cN w' be bm bc gc g1 g2 ((c.set d (xs.getD a 0)).goto (c.pc - 1)) xs a (-1) false true:=by
 have HN:=aA.mk (⟨ha,hn⟩:a<xs.length∧xs.length≤8192)
 have H0:=aA.mk (fun nq:Nat=>show cN (((w.alloc (.cells #[.int .i64 21,.int .i64 (d:Int),.int .i64 s,.int .i64 (t:Int),.int .i64 (u:Int),.int .i64 ar,.int .u32 k,.int .i64 to_] 214)).drewN nq).setCell ⟨g2,3,none⟩ (.bool true)) be bm bc gc g1 g2 c xs a 0 true false from (h.below (W':=(w.alloc _).drewN nq) (aH (aD (Below.refl _ _) _) nq)).out 3 _ rfl)
 have M0:=aA.mk (fun nq:Nat=>show Mod (fun q=>q=gc∨q=g1∨q=g2) w (((w.alloc (.cells #[.int .i64 21,.int .i64 (d:Int),.int .i64 s,.int .i64 (t:Int),.int .i64 (u:Int),.int .i64 ar,.int .u32 k,.int .i64 to_] 214)).drewN nq).setCell ⟨g2,3,none⟩ (.bool true)) from (((Mod.refl _ w).alloc _).drewN nq).setCell (p:=⟨g2,3,none⟩) (Or.inr (Or.inr rfl)) _)
 obtain ⟨⟨v0,v1,v2,v4,v5,he⟩,⟨u1,u2,hm⟩,hk,hx,h1,h2⟩:=h
 have a3:=(aC he 3).trans rfl
 have m0:=(aC hm 0).trans rfl
 obtain ⟨o0,of0,o1,of1,o2,of2,o3,of3,o4,of4,o5,of5⟩:=fW h2
 have cd:=(aC h1 d).trans (kE c d d8)
 have ct:=(aC h1 t).trans (kE c t t8)
 have cu:=(aC h1 u).trans (kE c u u8)
 have cp:w.cell? ⟨g1,8,none⟩=some (.int .i64 c.pc):=(aC h1 8).trans rfl
 have fd:=aG h1 d
 have fp:=aG h1 8
 obtain ⟨z0,z1⟩:((0:Int)≤(d:Int))∧((d:Int)<8):=by omega
 obtain ⟨z2,z3⟩:((0:Int)≤(t:Int))∧((t:Int)<8):=by omega
 obtain ⟨z4,z5⟩:((0:Int)≤(u:Int))∧((u:Int)<8):=by omega
 have ne1:be≠g2:=aK he h2 (by decide)
 have ne2:bm≠g2:=aK hm h2 (by decide)
 have ne5:g1≠g2:=aK h1 h2 (by decide)
 have nf5:g2≠g1:=ne5.symm
 have nf1:be≠g1:=aK he h1 (by decide)
 have nf2:bm≠g1:=aK hm h1 (by decide)
 have b1:=aZ h1
 have b2:=aZ h2
 have be_:=aZ he
 have bm_:=aZ hm
 clear he hm hk hx h1 h2 ha hn
 obtain ⟨x,hx_⟩:∃ x,x=xs.getD a 0:=⟨_,rfl⟩
 have P:aA (∀ W:World,W.heap[bc]?=some (.cells (dD gc xs.length) 310 (0,0))→W.heap[gc]?=some (.cells (cU xs) 314 (0,0))→Calls Tryz.prog 184 #[.pointer (some ⟨bc,0,none⟩),.int .i64 (a:Int)] W fun e w'=>e= .returned (.int .u32 x)∧W=w'):=⟨fun W h1 h2=>by rw [hx_];exact H4 bc gc xs.length a xs W h1 h2 rfl HN.out.1 HN.out.2⟩
 rw [← hx_] at he_ ⊢
 clear hx_
 have H2:=aA.mk (fun nq:Nat=>(H0.out nq).out 3 (.bool false) (wr':=false) (st':=false) (dn':=0) rfl)
 have M2:=aA.mk (fun nq:Nat=>(M0.out nq).setCell (p:=⟨g2,3,none⟩) (Or.inr (Or.inr rfl)) (.bool false))
 clear H0 M0
 cases hp:(x==c.get t) <;> cases hq:(k==0) <;> (try (exfalso;rw [hp,hq] at he_;cases he_;done))
 all_goals
  clear he_
  subst hl_
  have e0:decide (to_<0)=true:=decide_eq_true ht_
  have hs:IntKind.i64.wrap (c.pc - 1)=c.pc - 1:=IntWalk.i64_in _ (by omega)
  have h8:¬ d=8:=by omega
  have h9:¬ 8=d:=by omega
  go_enter Tryz.func127,Tryz.ntmps127
  go_wp2_with fail
  go_quiet (fail)
  go_wp2_with (go_at_call 184;refine (P.out _ (H2.out _).k (H2.out _).x).mono ?_;rintro e w9 ⟨rfl,rfl⟩)
  go_quiet (fail)
  go_wp2
  go_ret
  exact ⟨rfl,(((((M2.out _).setCell (p:=⟨g1,d,none⟩) (Or.inr (Or.inl rfl)) _).drewN _).setCell (p:=⟨g1,8,none⟩) (Or.inr (Or.inl rfl)) _).setCell (p:=⟨g2,4,none⟩) (Or.inr (Or.inr rfl)) _).setCell (p:=⟨g2,1,none⟩) (Or.inr (Or.inr rfl)) _,(((((H2.out _).yC d d8 x).below (aH (Below.refl _ _) _)).TK (c.pc - 1)).out 4 (.bool true) (dn':=0) (wr':=false) (st':=true) rfl).out 1 (.int .i64 (-1)) (dn':= -1) (wr':=false) (st':=true) rfl⟩
def dS (c:Cr) (xs:List Int) (a:Nat) (i:dA) (late:Bool):Cr × List Int × Bool × Bool:=
 if i.op=16 then (c.set i.d (xs.getD a 0),xs,false,false)
 else if i.op=17 then (c,xs.set a (c.get i.t),true,false)
 else if i.op=18 then (c.set i.d (xs.getD a 0),xs.set a (c.get i.t),true,false)
 else if i.op=19 then if xs.getD a 0=c.get i.t then (c.set i.d 1,xs.set a (c.get i.u),true,false) else (c.set i.d 0,xs,false,false)
 else if i.op=20 then (c.set i.d (xs.getD a 0),xs.set a ((xs.getD a 0+i.k) % 4294967296),true,false)
 else if ((xs.getD a 0==c.get i.t)==(i.k==0))=true then (c.set i.d (xs.getD a 0),xs,false,false)
 else if late=true∧0≤i.to_ then ((c.set i.d (xs.getD a 0)).goto i.to_,xs,false,false)
 else ((c.set i.d (xs.getD a 0)).goto (c.pc - 1),xs,false,true)
structure okX (i:dA):Prop where
 ok:okI i
 u:0≤i.u∧i.u<8
theorem OI (be bm bc gc g1 g2:Nat) (c:Cr) (xs:List Int) (a:Nat) (i:dA) (late wr:Bool) (w:World) (h:cN w be bm bc gc g1 g2 c xs a 0 wr false) (ha:a<xs.length) (hn:xs.length≤8192) (hi:okX i) (o0:16≤i.op) (o1:i.op<22) (hx:0≤xs.getD a 0∧xs.getD a 0<4294967296) (hp: -4611686018427387904≤c.pc∧c.pc≤4611686018427387904):
  Calls Tryz.prog 127 #[.pointer (some ⟨be,0,none⟩),.pointer (some ⟨g1,0,none⟩),ival i,.pointer (some ⟨g2,0,none⟩),.bool late] w fun e w'=>
   e= .returned (.bool (dS c xs a i late).2.2.2)∧Mod (fun q=>q=gc∨q=g1∨q=g2) w w'∧cN w' be bm bc gc g1 g2 (dS c xs a i late).1 (dS c xs a i late).2.1 a (if (dS c xs a i late).2.2.2=true then -1 else 0) (dS c xs a i late).2.2.1 (dS c xs a i late).2.2.2:=by
 obtain ⟨op,d,s,t,u,ar,k,to_⟩:=i
 obtain ⟨⟨_,⟨d0,d1⟩,_,⟨t0,t1⟩,_,_⟩,u0,u1⟩:=hi
 dsimp only at d0 d1 t0 t1 u0 u1 o0 o1
 obtain ⟨d,rfl⟩:=Int.eq_ofNat_of_zero_le d0
 obtain ⟨t,rfl⟩:=Int.eq_ofNat_of_zero_le t0
 obtain ⟨u,rfl⟩:=Int.eq_ofNat_of_zero_le u0
 have d8:d<8:=by omega
 have t8:t<8:=by omega
 have u8:u<8:=by omega
 have:=hx
 rcases (by omega:op=16∨op=17∨op=18∨op=19∨op=20∨op=21) with rfl|rfl|rfl|rfl|rfl|rfl
 ·exact TE be bm bc gc g1 g2 c xs a d t u s ar k to_ late wr w h ha hn d8 t8 u8
 ·exact PY be bm bc gc g1 g2 c xs a d t u s ar k to_ late wr w h ha hn d8 t8 u8
 ·exact VQ be bm bc gc g1 g2 c xs a d t u s ar k to_ late wr w h ha hn d8 t8 u8
 ·by_cases he:xs.getD a 0=c.get t
  ·have e:dS c xs a ⟨19,d,s,t,u,ar,k,to_⟩ late=(c.set d 1,xs.set a (c.get u),true,false):=(if_pos he:_)
   rw [e]
   exact FA be bm bc gc g1 g2 c xs a d t u s ar k to_ late wr w h ha hn d8 t8 u8 he
  ·have e:dS c xs a ⟨19,d,s,t,u,ar,k,to_⟩ late=(c.set d 0,xs,false,false):=(if_neg he:_)
   rw [e]
   exact CW be bm bc gc g1 g2 c xs a d t u s ar k to_ late wr w h ha hn d8 t8 u8 he
 ·exact UO be bm bc gc g1 g2 c xs a d t u s ar k to_ late wr w h ha hn d8 t8 u8 hx
 ·by_cases he:((xs.getD a 0==c.get t)==(k==0))=true
  ·have e:dS c xs a ⟨21,d,s,t,u,ar,k,to_⟩ late=(c.set d (xs.getD a 0),xs,false,false):=(if_pos he:_)
   rw [e]
   exact DD be bm bc gc g1 g2 c xs a d t u s ar k to_ late wr w h ha hn d8 t8 u8 he
  ·have he':((xs.getD a 0==c.get t)==(k==0))=false:=by simpa using he
   by_cases hl:late=true∧0≤to_
   ·have e:dS c xs a ⟨21,d,s,t,u,ar,k,to_⟩ late=((c.set d (xs.getD a 0)).goto to_,xs,false,false):=(if_neg he:_).trans (if_pos hl)
    rw [e]
    exact xM be bm bc gc g1 g2 c xs a d t u s ar k to_ late wr w h ha hn d8 t8 u8 he' hl.1 hl.2
   ·have e:dS c xs a ⟨21,d,s,t,u,ar,k,to_⟩ late=((c.set d (xs.getD a 0)).goto (c.pc - 1),xs,false,true):=(if_neg he:_).trans (if_neg hl)
    rw [e]
    cases hlt:late with
    |false=>exact tR be bm bc gc g1 g2 c xs a d t u s ar k to_ false wr w h ha hn d8 t8 u8 he' hp rfl
    |true=>exact tT be bm bc gc g1 g2 c xs a d t u s ar k to_ true wr w h ha hn d8 t8 u8 he' hp rfl (by rw [hlt] at hl;simp at hl;exact hl)
theorem zM (be gk cap bm bp:Nat) (A:Option Addr) (l:List dA) (lo un:Int) (cs:List Cr) (t:Nat) (u:Bool) (r:Cr × List Int × Int × Int) (w:World)
  (hb:w.heap[be]?=some (.cells #[.slice A l.length cap,.int .i64 lo,.int .i64 un,.pointer (some ⟨bm,0,none⟩),.pointer (some ⟨bp,0,none⟩),.slice (some ⟨gk,0,none⟩) cs.length cs.length] 149 (0,0)))
  (hl:Kd.C e9 w A l.length l) (hcap:l.length≤cap) (hn:l.length≤64) (hi:∀ i∈l,okI i) (hk:w.heap[gk]?=some (.cells (bD cs) 192 (0,0))) (ht:t<cs.length) (h64:cs.length≤64) (hc:cs[t].ok) (hr:go l t 256 (cs[t].goto (if u then un else lo)) []=r):
  Calls Tryz.prog 74 #[.pointer (some ⟨be,0,none⟩),.int .i64 (t:Int),.bool u] w fun e w'=>
   ∃ v,e= .returned (.agg #[v,.int .i64 r.2.2.1,.int .i64 (-1),.bool false,.bool false,.int .i64 r.2.2.2])∧Kd.R (Kd.int .i64) 3 w' w.heap.size (fun _=>True) v r.2.1∧Mod (fun q=>q=gk) w w'∧w'.heap[gk]?=some (.cells (bD (cs.set t r.1)) 192 (0,0)):=by
 have P:=aA.mk (fun (W:World) (hW:Below w.heap.size w W)=>iA be gk cap bm bp A l lo un cs t (cs[t].goto (if u then un else lo)) 0 (-1) 0 false false r W (aE hb hW) (Kd.cH hl hW) hcap hn hi (aE hk hW) ht h64 (Cr.gU hc _) hr)
 obtain ⟨⟨k0,k1,k2,k3,k4,k5,k6,k7,k8⟩,j0,j1,j2,j3,j4,j5,j6,j7,j8⟩:=kH hk ht
 have b1:=(aC hb 1).trans rfl
 have b2:=(aC hb 2).trans rfl
 have b5:=(aC hb 5).trans rfl
 have zb:=aZ hb
 have zk:=aZ hk
 have i0:(0:Int)≤(t:Int):=by omega
 have i1:(t:Int)<(cs.length:Int):=by omega
 have i2:(cs.length:Int)≤64:=by omega
 clear hb hl hcap hn hi hk h64 hc hr
 generalize cs[t]=c at P k0 k1 k2 k3 k4 k5 k6 k7 k8
 obtain ⟨r0,r1,r2,r3,r4,r5,r6,r7,pc⟩:=c
 dsimp only at k0 k1 k2 k3 k4 k5 k6 k7 k8
 have HB0:=aA.mk (fun p:Int=>aD (aD (Below.refl w.heap.size w) (.cells #[.slice none 0 0,.int .i64 0,.int .i64 0,.bool false,.bool false,.int .i64 0] 136)) (.cells #[.int .u32 r0,.int .u32 r1,.int .u32 r2,.int .u32 r3,.int .u32 r4,.int .u32 r5,.int .u32 r6,.int .u32 r7,.int .i64 p] 192))
 have C0:=aA.mk (fun p:Int=>aV (bF w (.cells #[.slice none 0 0,.int .i64 0,.int .i64 0,.bool false,.bool false,.int .i64 0] 136)) (.cells #[.int .u32 r0,.int .u32 r1,.int .u32 r2,.int .u32 r3,.int .u32 r4,.int .u32 r5,.int .u32 r6,.int .u32 r7,.int .i64 p] 192))
 obtain ⟨c',ms,dn,er⟩:=r
 have ng:w.heap.size≠gk:=by omega
 cases u
 all_goals
  go_enter Tryz.func74,Tryz.ntmps74
  go_wp2_with (go_at_call 128;refine (P.out _ (HB0.out _)).mono ?_;rintro e w2 ⟨v,rfl,hR,hm,hg⟩;have HV0:=aA.mk (Kd.cT hR (HB0.out _).size);have HM:=aA.mk (((Mod.jE (HB0.out _)).mono (T:=fun q=>q=gk) (fun _ _ h=>h.elim)).trans hm (fun _ _ h=>h));have HG:=aA.mk hg;have n8:=aA.mk (hm.bI (C0.out _) ng);clear hR hm hg HB0 C0 P;obtain ⟨Av,cv,hv,_,_⟩:=Kd.bY HV0.out;subst hv;obtain ⟨y0,z0,y1,z1,y2,z2,y3,z3,y4,z4,y5,z5⟩:=fW n8.out)
  change bodyPost _ _ _ _ _ (iU w2 w.heap.size (.slice Av ms.length cv) (.int .i64 dn) (.int .i64 (-1)) (.bool false) (.bool false) (.int .i64 er))
  have M8:=fR w2 w.heap.size (.slice Av ms.length cv) (.int .i64 dn) (.int .i64 (-1)) (.bool false) (.bool false) (.int .i64 er)
  have p8:=eY n8.out (.slice Av ms.length cv) (.int .i64 dn) (.int .i64 (-1)) (.bool false) (.bool false) (.int .i64 er)
  have pk:=EF HG.out ng.symm (.slice Av ms.length cv) (.int .i64 dn) (.int .i64 (-1)) (.bool false) (.bool false) (.int .i64 er)
  have HVF:=iT HV0.out M8 (fun q hq=>by rcases hq with rfl;exact ⟨_,_,n8.out,by decide⟩)
  have MF:=HM.out.trans M8 (S:=fun q=>q=gk) (T:=fun q=>q=w.heap.size) (fun q hq hs=>by exfalso;omega)
  generalize iU w2 w.heap.size (.slice Av ms.length cv) (.int .i64 dn) (.int .i64 (-1)) (.bool false) (.bool false) (.int .i64 er)=WF at p8 pk HVF MF ⊢
  obtain ⟨r0,r1,r2,r3,r4,r5⟩:=eM p8
  exact bodyPost_ret (v:= .agg #[.slice Av ms.length cv,.int .i64 dn,.int .i64 (-1),.bool false,.bool false,.int .i64 er]) (by simp [results,Tryz.results74,go_sem, *]) rfl ⟨_,rfl,HVF,MF,pk⟩
end Go.Proofs.YtjopodnlffaogaaGreatDoor.Tp
end
