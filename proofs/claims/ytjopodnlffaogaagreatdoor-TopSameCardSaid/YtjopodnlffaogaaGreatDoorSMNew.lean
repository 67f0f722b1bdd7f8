/- A part of the proof of TopSame: TpMNew. -/
import Derived.Test.YtjopodnlffaogaaGreatDoorSL5
set_option linter.unusedVariables false
set_option linter.unusedSimpArgs false
set_option maxRecDepth 100000
set_option maxHeartbeats 4000000
section
namespace Go.Proofs.YtjopodnlffaogaaGreatDoor.Tp
open Go.RowKit Go.Proofs.YtjopodnlffaogaaGreatDoorW.PrintWords Go.Proofs.YtjopodnlffaogaaGreatDoorW.PrintLast Go.Proofs.YtjopodnlffaogaaGreatDoorW.PrintMore
attribute [local go_sem] aU aQ aY aX aI aJ aT aN
theorem lN.below {W W':World} {B be:Nat} {p:dU} (h:lN W B p be) (hb:Below W.heap.size W W'):lN W' B p be:=by
 obtain ⟨vl,bm,bc,gc,vs,vb,bp,bq,vr,rs,gk,h1,h2,h3,h4⟩:=h
 exact ⟨vl,bm,bc,gc,vs,vb,bp,bq,vr,rs,gk,h1.below hb,aE h2 hb,h3,h4⟩
theorem lN.lower {W:World} {B B' be:Nat} {p:dU} (h:lN W B p be) (hB:B'≤B):lN W B' p be:=by
 obtain ⟨vl,bm,bc,gc,vs,vb,bp,bq,vr,rs,gk,h1,h2,h3,h4⟩:=h
 exact ⟨vl,bm,bc,gc,vs,vb,bp,bq,vr,rs,gk,h1.lower hB,h2,h3,h4.1,h4.2.lower hB⟩
theorem kD.lower {W:World} {B B' bw bp:Nat} {spin:Int} {v vp:Value} {sl:List Sl} {cs:List Nat} (h:kD W B bw bp spin v vp sl cs) (hB:B'≤B):kD W B' bw bp spin v vp sl cs:=
 ⟨h.bI,Kd.cT h.row hB,h.pblk,Kd.cT h.prow hB,⟨h.chans.nodup,fun c hc=>⟨Nat.le_trans hB (h.chans.at_ c hc).1,(h.chans.at_ c hc).2⟩⟩,h.len⟩
structure H9 where
 state:Int
 deadline:Int
 steps:Int
def H9.cells (t:H9):List Value:= [.int .i64 t.state,.int .i64 t.deadline,.int .i64 t.steps]
def dY (l:List H9):Array Value:=(l.flatMap H9.cells).toArray
theorem GJ (n:Nat):madeCells #[.int .i64 0,.int .i64 0,.int .i64 0] (n*3)=dY (List.replicate n ⟨0,0,0⟩):=A4 H9.cells 3 (fun _=>rfl) (by decide) ⟨0,0,0⟩ _ rfl n
theorem FC (n:Nat) (hn:n≤64) (W:World):(Instr.makeSlice 74 (.int .i64 (n:Int)) (.int .i64 (n:Int))).run Tryz.prog W= .ok (.slice (some ⟨W.heap.size,0,none⟩) n n) (W.alloc (.cells (dY (List.replicate n ⟨0,0,0⟩)) 86)):=by
 rw [← GJ]
 exact sI (P:=Tryz.prog) 74 86 (Value.agg #[.int .i64 0,.int .i64 0,.int .i64 0]) 3 24 (by kernel_rfl) (by kernel_rfl) (by decide) n (by omega) W
def LZ (W:World) (B:Nat) (p:dU) (n:Nat) (spin:Int) (tr:Bool) (bm:Nat):Prop:=∃ be bw bp v vp cs gl,B≤bm∧W.heap[bm]?=some (.cells #[.pointer (some ⟨be,0,none⟩),.pointer (some ⟨bw,0,none⟩),.bool tr,.slice (some ⟨gl,0,none⟩) n n,.int .i64 0,.slice none 0 0] 76 (0,0))∧lN W B p be∧kD W B bw bp spin v vp (List.replicate n ⟨0,-1⟩) cs∧W.heap[gl]?=some (.cells (dY (List.replicate n ⟨0,0,0⟩)) 86 (0,0))∧B≤gl
def fQ (k:Int):Bool:=k==7 || k==8
theorem AU (k:Int):qlock_Try.f k=some (fQ k):=by
 unfold qlock_Try.f fQ
 by_cases h:k=7
 ·subst h;rfl
 ·rw [if_neg h]
  have:(k==7)=false:=beq_eq_false_iff_ne.mpr h
  rw [this,Bool.false_or]
theorem NJ (H:iN) {c:NH} {p:dU} (h:eA c p) (s0:1≤c.spin) (s1:c.spin≤1000) (w:World) (hl:dO w):Calls Tryz.prog 7 #[.agg c.cells] w fun e w'=>∃ bm,e= .returned (.tuple #[.pointer (some ⟨bm,0,none⟩),.int .i64 0])∧Below w.heap.size w w'∧LZ w' w.heap.size p p.r7.length c.spin (fQ c.kind) bm:=by
 have K:=aA.mk (pH h)
 have P:=aA.mk (fun (W:World) (hW:dO W)=>NR H h s0 s1 W hW)
 have HL:=aA.mk hl
 have C0:=aA.mk (bF w (.cells c.cells 24))
 have HB0:=aA.mk (aD (Below.refl w.heap.size w) (.cells c.cells 24))
 have S0:=aA.mk (⟨s0,s1⟩:1≤c.spin∧c.spin≤1000)
 clear H h s0 s1 hl
 obtain ⟨kd,th,sl,ea,sp,st⟩:=c
 simp only [NH.cells] at P C0 HB0 K S0 ⊢
 obtain rfl:=K.out.len
 have MK:=aA.mk (fun W:World=>FC p.r7.length K.out.n64 W)
 go_enter Tryz.func7,Tryz.ntmps7
 go_wp2_with ((go_at_call 23;refine (P.out _ (HL.out.below HB0.out)).mono ?_;rintro e w3 ⟨be,rfl,hb,hs⟩;have m0:=aA.mk (aE C0.out hb);have HB:=aA.mk (bA HB0.out hb);have HX:=aA.mk (hs.lower HB0.out.size);clear hb hs C0 HB0 P HL;have c1:=(aC m0.out 1).trans rfl;have c4:=(aC m0.out 4).trans rfl))

 go_at_call 24
 refine (yS p.r7.length sp _ K.out.n1 K.out.n64 S0.out.1 S0.out.2).mono ?_
 rintro e w4 ⟨bw,bp,v,vp,cs,rfl,hb,hs,hbw,hbp⟩
 have m1:=aA.mk (aE m0.out hb)
 have HB1:=aA.mk (bA HB.out hb)
 have HX1:=aA.mk (HX.out.below hb)
 have HW1:=aA.mk (hs.lower HB.out.size)
 clear hb hs hbw hbp m0 HB HX
 have d0:=(aC m1.out 0).trans rfl
 have d1:=(aC m1.out 1).trans rfl
 go_wp2_with fail
 clear d0 d1 c1 c4

 refine dB (n:=12) (S:=fun w'=>w'.heap[w.heap.size]?=some (.cells #[.int .i64 kd,.int .i64 (p.r7.length:Int),.int .i64 sl,.int .i64 ea,.int .i64 sp,.int .u32 st] 24 (0,0))) (ds:= []) #[false,false,false,false,false,false,false,false,false,false,false,false] (by kernel_rfl) rfl rfl m1.out (fun hHeld=>?_)
 replace m1:=aA.mk (drew_ m1.out)
 replace HX1:=aA.mk (HX1.out.below (bG (Below.refl _ _)))
 replace HW1:=aA.mk (HW1.out.below (bG (Below.refl _ _)))
 replace HB1:=aA.mk (bG HB1.out)
 generalize w4.drew=w5 at m1 HX1 HW1 HB1 hHeld ⊢
 refine pur_ 0 24 ?_
 refine pur_ 1 25 ?_
 refine pur_ 2 26 ?_
 refine pur_ 5 29 ?_
 refine tak_ 3 27 (.int .i64 kd) ?_ hHeld ?_
 ·intro w' hS
  have c0:=(aC hS 0).trans rfl
  clear hHeld hS
  go_simp
 refine tak_ 6 30 (.int .i64 (p.r7.length:Int)) ?_ hHeld ?_
 ·intro w' hS
  have c1:=(aC hS 1).trans rfl
  clear hHeld hS
  go_simp
 refine RA (σ:=Nat) 4 #[true,true,true,true,true,true,true,true,false,false,false,false] (fun z=> [(28,.bool (fQ kd)),(31,.slice (some ⟨z,0,none⟩) p.r7.length p.r7.length)]) (fun z w'=>w'.heap[w.heap.size]?=some (.cells #[.int .i64 kd,.int .i64 (p.r7.length:Int),.int .i64 sl,.int .i64 ea,.int .i64 sp,.int .u32 st] 24 (0,0))∧w'.heap[z]?=some (.cells (dY (List.replicate p.r7.length ⟨0,0,0⟩)) 86 (0,0))∧lN w' w.heap.size p be∧kD w' w.heap.size bw bp sp v vp (List.replicate p.r7.length ⟨0,-1⟩) cs∧Below w.heap.size w w'∧w.heap.size≤z) ?cont ?orders
 case orders=>
  intro hcont
  refine WS (i:=4) (j:=7) (Ni:=some 28) (Nj:=some 31) #[true,true,true,true,true,true,true,false,false,false,false,false] #[true,true,true,true,false,true,true,true,false,false,false,false] rfl rfl rfl rfl (by kernel_rfl) (by decide) (by decide) (fun K hK=>?_) (fun K hK=>?_)
  ·
   refine goe_ Tryz.func16 #[.int .i64 kd] ?_
   refine (qlock_Try.calls kd (fQ kd) _ (AU kd)).mono ?_
   rintro e w9 ⟨rfl,hd⟩
   have hb:=hd.below
   clear hd
   refine ⟨_,rfl,?_⟩
   replace m1:=aA.mk (aE m1.out hb)
   replace HX1:=aA.mk (HX1.out.below hb)
   replace HW1:=aA.mk (HW1.out.below hb)
   replace HB1:=aA.mk (bA HB1.out hb)
   clear hb hHeld
   refine hK.out _ _ m1.out (fun hHeld=>?_)
   clear hK K
   refine nor_ ?_
   refine on_ 7 31 (fun K hK=>?_)
   refine jX (v:= .slice (some ⟨w9.heap.size,0,none⟩) p.r7.length p.r7.length) (w1:=w9.alloc (.cells (dY (List.replicate p.r7.length ⟨0,0,0⟩)) 86)) (by rfl) rfl (by have hmk:=MK.out w9;go_simp) ?_
   have BK:=aA.mk (bF w9 (.cells (dY (List.replicate p.r7.length ⟨0,0,0⟩)) 86))
   have GK:=aA.mk HB1.out.size
   replace m1:=aA.mk (aV m1.out (.cells (dY (List.replicate p.r7.length ⟨0,0,0⟩)) 86))
   replace HX1:=aA.mk (HX1.out.below (aD (Below.refl _ _) (.cells (dY (List.replicate p.r7.length ⟨0,0,0⟩)) 86)))
   replace HW1:=aA.mk (HW1.out.below (aD (Below.refl _ _) (.cells (dY (List.replicate p.r7.length ⟨0,0,0⟩)) 86)))
   replace HB1:=aA.mk (aD HB1.out (.cells (dY (List.replicate p.r7.length ⟨0,0,0⟩)) 86))
   clear hHeld
   refine hK.out _ _ m1.out (fun hHeld=>?_)
   clear hK K
   refine nor_ ?_
   generalize w9.alloc (.cells (dY (List.replicate p.r7.length ⟨0,0,0⟩)) 86)=wa at m1 HX1 HW1 HB1 BK hHeld ⊢
   generalize w9.heap.size=gk at BK GK ⊢
   refine nJ (a':=_) ?_ (hcont gk _ ⟨m1.out,BK.out,HX1.out,HW1.out,HB1.out,GK.out⟩)
   simp only [iX,Act.put,List.setIfInBounds_toArray,List.set_cons_zero,List.set_cons_succ]
   try rfl
  ·
   refine jX (v:= .slice (some ⟨w5.heap.size,0,none⟩) p.r7.length p.r7.length) (w1:=w5.alloc (.cells (dY (List.replicate p.r7.length ⟨0,0,0⟩)) 86)) (by rfl) rfl (by have hmk:=MK.out w5;go_simp) ?_
   have BK:=aA.mk (bF w5 (.cells (dY (List.replicate p.r7.length ⟨0,0,0⟩)) 86))
   have GK:=aA.mk HB1.out.size
   replace m1:=aA.mk (aV m1.out (.cells (dY (List.replicate p.r7.length ⟨0,0,0⟩)) 86))
   replace HX1:=aA.mk (HX1.out.below (aD (Below.refl _ _) (.cells (dY (List.replicate p.r7.length ⟨0,0,0⟩)) 86)))
   replace HW1:=aA.mk (HW1.out.below (aD (Below.refl _ _) (.cells (dY (List.replicate p.r7.length ⟨0,0,0⟩)) 86)))
   replace HB1:=aA.mk (aD HB1.out (.cells (dY (List.replicate p.r7.length ⟨0,0,0⟩)) 86))
   clear hHeld
   refine hK.out _ _ m1.out (fun hHeld=>?_)
   clear hK K
   refine nor_ ?_
   generalize w5.alloc (.cells (dY (List.replicate p.r7.length ⟨0,0,0⟩)) 86)=wa at m1 HX1 HW1 HB1 BK hHeld ⊢
   generalize w5.heap.size=gk at BK GK ⊢
   refine on_ 4 28 (fun K hK=>?_)
   refine goe_ Tryz.func16 #[.int .i64 kd] ?_
   refine (qlock_Try.calls kd (fQ kd) _ (AU kd)).mono ?_
   rintro e w9 ⟨rfl,hd⟩
   have hb:=hd.below
   clear hd
   refine ⟨_,rfl,?_⟩
   replace m1:=aA.mk (aE m1.out hb)
   replace HX1:=aA.mk (HX1.out.below hb)
   replace HW1:=aA.mk (HW1.out.below hb)
   replace HB1:=aA.mk (bA HB1.out hb)
   replace BK:=aA.mk (aE BK.out hb)
   clear hb hHeld
   refine hK.out _ _ m1.out (fun hHeld=>?_)
   clear hK K
   refine nor_ ?_
   refine nJ (a':=_) ?_ (hcont gk _ ⟨m1.out,BK.out,HX1.out,HW1.out,HB1.out,GK.out⟩)
   simp only [iX,Act.put,List.setIfInBounds_toArray,List.set_cons_zero,List.set_cons_succ]
   try rfl
 case cont=>
  clear m1 HX1 HW1 HB1 MK hHeld
  rintro gk wf ⟨h0,h1,h2,h3,h4,h5⟩
  try dsimp only at h0 h1 h2 h3 h4 h5 ⊢
  have m5:=aA.mk h0
  have BK:=aA.mk h1
  have HX5:=aA.mk h2
  have HW5:=aA.mk h3
  have HB5:=aA.mk h4
  have GK:=aA.mk h5
  clear h0 h1 h2 h3 h4 h5
  refine nJ (a':=?_) ?_ ?_
  rotate_left
  ·simp only [iX,Act.put,List.setIfInBounds_toArray,List.set_cons_zero,List.set_cons_succ]
   rfl
  refine pur_ 8 32 ?_
  refine on_ 9 33 (fun K hK=>?_)
  refine jX (v:= .pointer (some ⟨wf.heap.size,0,none⟩)) (w1:=wf.alloc (.cells #[.pointer (some ⟨be,0,none⟩),.pointer (some ⟨bw,0,none⟩),.bool (fQ kd),.slice (some ⟨gk,0,none⟩) p.r7.length p.r7.length,.int .i64 0,.slice none 0 0] 76)) (by rfl) rfl (by kernel_rfl) ?_
  have BM:=aA.mk (bF wf (.cells #[.pointer (some ⟨be,0,none⟩),.pointer (some ⟨bw,0,none⟩),.bool (fQ kd),.slice (some ⟨gk,0,none⟩) p.r7.length p.r7.length,.int .i64 0,.slice none 0 0] 76))
  have GM:=aA.mk HB5.out.size
  replace m5:=aA.mk (aV m5.out (.cells #[.pointer (some ⟨be,0,none⟩),.pointer (some ⟨bw,0,none⟩),.bool (fQ kd),.slice (some ⟨gk,0,none⟩) p.r7.length p.r7.length,.int .i64 0,.slice none 0 0] 76))
  replace BK:=aA.mk (aV BK.out (.cells #[.pointer (some ⟨be,0,none⟩),.pointer (some ⟨bw,0,none⟩),.bool (fQ kd),.slice (some ⟨gk,0,none⟩) p.r7.length p.r7.length,.int .i64 0,.slice none 0 0] 76))
  replace HX5:=aA.mk (HX5.out.below (aD (Below.refl _ _) (.cells #[.pointer (some ⟨be,0,none⟩),.pointer (some ⟨bw,0,none⟩),.bool (fQ kd),.slice (some ⟨gk,0,none⟩) p.r7.length p.r7.length,.int .i64 0,.slice none 0 0] 76)))
  replace HW5:=aA.mk (HW5.out.below (aD (Below.refl _ _) (.cells #[.pointer (some ⟨be,0,none⟩),.pointer (some ⟨bw,0,none⟩),.bool (fQ kd),.slice (some ⟨gk,0,none⟩) p.r7.length p.r7.length,.int .i64 0,.slice none 0 0] 76)))
  replace HB5:=aA.mk (aD HB5.out (.cells #[.pointer (some ⟨be,0,none⟩),.pointer (some ⟨bw,0,none⟩),.bool (fQ kd),.slice (some ⟨gk,0,none⟩) p.r7.length p.r7.length,.int .i64 0,.slice none 0 0] 76))
  refine hK.out _ _ m5.out (fun hHeld=>?_)
  clear hK K
  refine nor_ ?_
  clear m5
  generalize wf.alloc (.cells #[.pointer (some ⟨be,0,none⟩),.pointer (some ⟨bw,0,none⟩),.bool (fQ kd),.slice (some ⟨gk,0,none⟩) p.r7.length p.r7.length,.int .i64 0,.slice none 0 0] 76)=wg at BM BK HX5 HW5 HB5 hHeld ⊢
  generalize wf.heap.size=bm at BM GM ⊢
  refine pur_ 10 2 ?_
  refine pur_ 11 3 ?_
  refine eO (by kernel_rfl) ?_
  go_wp2_with fail
  go_ret2
  exact ⟨bm,rfl,HB5.out,be,bw,bp,v,vp,cs,gk,GM.out,BM.out,HX5.out,HW5.out,BK.out,GK.out⟩
end Go.Proofs.YtjopodnlffaogaaGreatDoor.Tp
end
