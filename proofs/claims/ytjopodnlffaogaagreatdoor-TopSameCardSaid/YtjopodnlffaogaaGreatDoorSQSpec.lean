/- A part of the proof of TopSame: TpQSpec. -/
import Derived.Test.YtjopodnlffaogaaGreatDoorSL3
set_option linter.unusedVariables false
set_option linter.unusedSimpArgs false
set_option maxRecDepth 100000
set_option maxHeartbeats 4000000
section
namespace Go.Proofs.YtjopodnlffaogaaGreatDoor.Tp
open Go.RowKit Go.Proofs.YtjopodnlffaogaaGreatDoorW.PrintWords Go.Proofs.YtjopodnlffaogaaGreatDoorW.PrintLast Go.Proofs.YtjopodnlffaogaaGreatDoorW.PrintMore
attribute [local go_sem] aU aQ aY aX aI aJ aT aN
theorem zK.mono {B B':Nat} {w w1:World} (h:zK B' w w1) (hB:B'≤B):zK B w w1:=fun q o hq ho=>h q o (by omega) ho
theorem cQ.lower {B B':Nat} {w':World} {v:Value} {l:List dA} {lo un:Int} {szs xs:List Int} {m:Int} {r7:List Int} (h:cQ B w' v l lo un szs xs m r7) (hB:B'≤B):cQ B' w' v l lo un szs xs m r7:=by
 obtain ⟨AL,AS,AI,AR,cL,cS,cI,cR,h1,h2,h3,h4,h5,h6⟩:=h
 exact ⟨AL,AS,AI,AR,cL,cS,cI,cR,h1,h2,h3,h4,h5,fun W hk=>h6 W (hk.mono hB)⟩
theorem iC {w w3:World} {v0 v1 v2 v3 v4 v5 v6 x0 x1 x2 x3 x4 x5 x6:Value} {l:List dA} {lo un:Int} {szs xs:List Int} {m:Int} {r7:List Int}
  (m0:w3.heap[w.heap.size+1]?=some (.cells #[x0,x1,x2,x3,x4,x5,x6] 114 (0,0))) (hB:Below w.heap.size w w3) (hs:cQ (w.heap.size+1+1) w3 (.agg #[v0,v1,v2,v3,v4,v5,v6]) l lo un szs xs m r7):
  ∃ WF,WF=hU w3 (w.heap.size+1) v0 v1 v2 v3 v4 v5 v6∧Below w.heap.size w WF∧WF.heap[w.heap.size+1]?=some (.cells #[v0,v1,v2,v3,v4,v5,v6] 114 (0,0))∧cQ w.heap.size WF (.agg #[v0,v1,v2,v3,v4,v5,v6]) l lo un szs xs m r7:=by
 have n2:=vN w3 (w.heap.size+1) v0 v1 v2 v3 v4 v5 v6
 refine ⟨_,rfl,kL hB (Nat.le_refl _) n2 (by intro q hq;omega),vR m0 _ _ _ _ _ _ _,(hs.XA (fun q o hq ho=>(n2.block q (aZ ho) (by intro h;omega)).trans ho)).lower (by omega)⟩
theorem M5 (H:iN) (n:Nat) (sl ea sp s:Int) (w:World) (hl:dO w) (n1:1≤n) (n64:n≤64) (s0:1≤sp) (s1:sp≤1000):
  Calls Tryz.prog 50 #[.agg #[.int .i64 5,.int .i64 (n:Int),.int .i64 sl,.int .i64 ea,.int .i64 sp,.int .u32 s]] w fun e w'=>∃ v,e= .returned (.tuple #[v,.int .i64 0])∧Below w.heap.size w w'∧cQ w.heap.size w' v tQ 0 13 [1,n,n] (List.replicate (1+2*n) 0) 0 (List.replicate n 0):=by
 have e0:decide (sp<1)=false:=decide_eq_false (by omega)
 have e1:decide (1000<sp)=false:=decide_eq_false (by omega)
 have P:=aA.mk (fun (W:World) (hW:dO W)=>zH tQ 0 13 H.mcs n W hW n1 n64)
 have HL:=aA.mk hl
 have C1:=aA.mk (show ((w.alloc (.cells #[.int .i64 5,.int .i64 (n:Int),.int .i64 sl,.int .i64 ea,.int .i64 sp,.int .u32 s] 24)).alloc (.cells #[.slice none 0 0,.int .i64 0,.int .i64 0,.slice none 0 0,.slice none 0 0,.int .i64 0,.slice none 0 0] 114)).heap[w.heap.size+1]?=some (.cells #[.slice none 0 0,.int .i64 0,.int .i64 0,.slice none 0 0,.slice none 0 0,.int .i64 0,.slice none 0 0] 114 (0,0)) from by
  have:=bF (w.alloc (.cells #[.int .i64 5,.int .i64 (n:Int),.int .i64 sl,.int .i64 ea,.int .i64 sp,.int .u32 s] 24)) (.cells #[.slice none 0 0,.int .i64 0,.int .i64 0,.slice none 0 0,.slice none 0 0,.int .i64 0,.slice none 0 0] 114)
  simpa using this)
 have HB0:=aA.mk (aD (aD (Below.refl w.heap.size w) (.cells #[.int .i64 5,.int .i64 (n:Int),.int .i64 sl,.int .i64 ea,.int .i64 sp,.int .u32 s] 24)) (.cells #[.slice none 0 0,.int .i64 0,.int .i64 0,.slice none 0 0,.slice none 0 0,.int .i64 0,.slice none 0 0] 114))
 clear H s0 s1 hl
 go_enter Tryz.func50,Tryz.ntmps50
 go_wp2_with (go_at_call 109;refine (P.out _ (HL.out.below HB0.out)).mono ?_;rintro e w3 ⟨v,rfl,hb,hs⟩;obtain ⟨AL,AS,AI,AR,cL,cS,cI,cR,rfl,hrest⟩:=hs;have HS:=aA.mk (show cQ _ w3 _ tQ 0 13 [1,n,n] (List.replicate (1+2*n) 0) 0 (List.replicate n 0) from ⟨AL,AS,AI,AR,cL,cS,cI,cR,rfl,hrest⟩);have m0:=aA.mk (aE C1.out hb);have HB:=aA.mk (bA HB0.out hb);clear hb hrest C1 HB0 P;obtain ⟨p0,q0,p1,q1,p2,q2,p3,q3,p4,q4,p5,q5,p6,q6⟩:=fP m0.out)
 clear p0 q0 p1 q1 p2 q2 p3 q3 p4 q4 p5 q5 p6 q6
 simp only [World.size_alloc] at HS
 obtain ⟨WF,hWF,h1,h2,h3⟩:=iC m0.out HB.out HS.out
 simp only [List.length_replicate,List.length_set,List.length_cons,List.length_nil,cB,Nat.zero_add,Nat.reduceAdd] at hWF h2 h3
 change bodyPost _ _ _ _ _ (hU w3 (w.heap.size+1) _ _ _ _ _ _ _)
 rw [← hWF]
 clear hWF
 obtain ⟨r0,r1,r2,r3,r4,r5,r6⟩:=gJ h2
 exact bodyPost_ret (by simp [results,Tryz.results50,go_sem, *]) rfl ⟨_,rfl,h1,h3⟩
theorem yO (H:iN) (n:Nat) (sl ea sp s:Int) (w:World) (hl:dO w) (n1:1≤n) (n64:n≤64) (s0:1≤sp) (s1:sp≤1000):
  Calls Tryz.prog 50 #[.agg #[.int .i64 3,.int .i64 (n:Int),.int .i64 sl,.int .i64 ea,.int .i64 sp,.int .u32 s]] w fun e w'=>∃ v,e= .returned (.tuple #[v,.int .i64 0])∧Below w.heap.size w w'∧cQ w.heap.size w' v fI 0 11 [1,((n+1:Nat):Int)] (((List.replicate (n+2) 0).set 0 (2*(n:Int))).set (n+1) 1) 0 (List.replicate n 0):=by
 have e0:decide (sp<1)=false:=decide_eq_false (by omega)
 have e1:decide (1000<sp)=false:=decide_eq_false (by omega)
 have P:=aA.mk (fun (W:World) (hW:dO W)=>rA fI 0 11 H.graunke n W hW n1 n64)
 have HL:=aA.mk hl
 have C1:=aA.mk (show ((w.alloc (.cells #[.int .i64 3,.int .i64 (n:Int),.int .i64 sl,.int .i64 ea,.int .i64 sp,.int .u32 s] 24)).alloc (.cells #[.slice none 0 0,.int .i64 0,.int .i64 0,.slice none 0 0,.slice none 0 0,.int .i64 0,.slice none 0 0] 114)).heap[w.heap.size+1]?=some (.cells #[.slice none 0 0,.int .i64 0,.int .i64 0,.slice none 0 0,.slice none 0 0,.int .i64 0,.slice none 0 0] 114 (0,0)) from by
  have:=bF (w.alloc (.cells #[.int .i64 3,.int .i64 (n:Int),.int .i64 sl,.int .i64 ea,.int .i64 sp,.int .u32 s] 24)) (.cells #[.slice none 0 0,.int .i64 0,.int .i64 0,.slice none 0 0,.slice none 0 0,.int .i64 0,.slice none 0 0] 114)
  simpa using this)
 have HB0:=aA.mk (aD (aD (Below.refl w.heap.size w) (.cells #[.int .i64 3,.int .i64 (n:Int),.int .i64 sl,.int .i64 ea,.int .i64 sp,.int .u32 s] 24)) (.cells #[.slice none 0 0,.int .i64 0,.int .i64 0,.slice none 0 0,.slice none 0 0,.int .i64 0,.slice none 0 0] 114))
 clear H s0 s1 hl
 go_enter Tryz.func50,Tryz.ntmps50
 go_wp2_with (go_at_call 107;refine (P.out _ (HL.out.below HB0.out)).mono ?_;rintro e w3 ⟨v,rfl,hb,hs⟩;obtain ⟨AL,AS,AI,AR,cL,cS,cI,cR,rfl,hrest⟩:=hs;have HS:=aA.mk (show cQ _ w3 _ fI 0 11 [1,((n+1:Nat):Int)] (((List.replicate (n+2) 0).set 0 (2*(n:Int))).set (n+1) 1) 0 (List.replicate n 0) from ⟨AL,AS,AI,AR,cL,cS,cI,cR,rfl,hrest⟩);have m0:=aA.mk (aE C1.out hb);have HB:=aA.mk (bA HB0.out hb);clear hb hrest C1 HB0 P;obtain ⟨p0,q0,p1,q1,p2,q2,p3,q3,p4,q4,p5,q5,p6,q6⟩:=fP m0.out)
 clear p0 q0 p1 q1 p2 q2 p3 q3 p4 q4 p5 q5 p6 q6
 simp only [World.size_alloc] at HS
 obtain ⟨WF,hWF,h1,h2,h3⟩:=iC m0.out HB.out HS.out
 simp only [List.length_replicate,List.length_set,List.length_cons,List.length_nil,cB,Nat.zero_add,Nat.reduceAdd] at hWF h2 h3
 change bodyPost _ _ _ _ _ (hU w3 (w.heap.size+1) _ _ _ _ _ _ _)
 rw [← hWF]
 clear hWF
 obtain ⟨r0,r1,r2,r3,r4,r5,r6⟩:=gJ h2
 exact bodyPost_ret (by simp [results,Tryz.results50,go_sem, *]) rfl ⟨_,rfl,h1,h3⟩
theorem OE (H:iN) (n:Nat) (sl ea sp s:Int) (w:World) (hl:dO w) (n1:1≤n) (n64:n≤64) (s0:1≤sp) (s1:sp≤1000):
  Calls Tryz.prog 50 #[.agg #[.int .i64 4,.int .i64 (n:Int),.int .i64 sl,.int .i64 ea,.int .i64 sp,.int .u32 s]] w fun e w'=>∃ v,e= .returned (.tuple #[v,.int .i64 0])∧Below w.heap.size w w'∧cQ w.heap.size w' v tZ 0 7 [1,((n+1:Nat):Int)] (List.replicate (n+2) 0) 0 (nN n):=by
 have e0:decide (sp<1)=false:=decide_eq_false (by omega)
 have e1:decide (1000<sp)=false:=decide_eq_false (by omega)
 have P:=aA.mk (fun (W:World) (hW:dO W)=>yH tZ 0 7 H.clh n W hW n1 n64)
 have HL:=aA.mk hl
 have C1:=aA.mk (show ((w.alloc (.cells #[.int .i64 4,.int .i64 (n:Int),.int .i64 sl,.int .i64 ea,.int .i64 sp,.int .u32 s] 24)).alloc (.cells #[.slice none 0 0,.int .i64 0,.int .i64 0,.slice none 0 0,.slice none 0 0,.int .i64 0,.slice none 0 0] 114)).heap[w.heap.size+1]?=some (.cells #[.slice none 0 0,.int .i64 0,.int .i64 0,.slice none 0 0,.slice none 0 0,.int .i64 0,.slice none 0 0] 114 (0,0)) from by
  have:=bF (w.alloc (.cells #[.int .i64 4,.int .i64 (n:Int),.int .i64 sl,.int .i64 ea,.int .i64 sp,.int .u32 s] 24)) (.cells #[.slice none 0 0,.int .i64 0,.int .i64 0,.slice none 0 0,.slice none 0 0,.int .i64 0,.slice none 0 0] 114)
  simpa using this)
 have HB0:=aA.mk (aD (aD (Below.refl w.heap.size w) (.cells #[.int .i64 4,.int .i64 (n:Int),.int .i64 sl,.int .i64 ea,.int .i64 sp,.int .u32 s] 24)) (.cells #[.slice none 0 0,.int .i64 0,.int .i64 0,.slice none 0 0,.slice none 0 0,.int .i64 0,.slice none 0 0] 114))
 clear H s0 s1 hl
 go_enter Tryz.func50,Tryz.ntmps50
 go_wp2_with (go_at_call 108;refine (P.out _ (HL.out.below HB0.out)).mono ?_;rintro e w3 ⟨v,rfl,hb,hs⟩;obtain ⟨AL,AS,AI,AR,cL,cS,cI,cR,rfl,hrest⟩:=hs;have HS:=aA.mk (show cQ _ w3 _ tZ 0 7 [1,((n+1:Nat):Int)] (List.replicate (n+2) 0) 0 (nN n) from ⟨AL,AS,AI,AR,cL,cS,cI,cR,rfl,hrest⟩);have m0:=aA.mk (aE C1.out hb);have HB:=aA.mk (bA HB0.out hb);clear hb hrest C1 HB0 P;obtain ⟨p0,q0,p1,q1,p2,q2,p3,q3,p4,q4,p5,q5,p6,q6⟩:=fP m0.out)
 clear p0 q0 p1 q1 p2 q2 p3 q3 p4 q4 p5 q5 p6 q6
 simp only [World.size_alloc] at HS
 obtain ⟨WF,hWF,h1,h2,h3⟩:=iC m0.out HB.out HS.out
 simp only [List.length_replicate,List.length_set,List.length_cons,List.length_nil,cB,Nat.zero_add,Nat.reduceAdd] at hWF h2 h3
 rw [cB]
 change bodyPost _ _ _ _ _ (hU w3 (w.heap.size+1) _ _ _ _ _ _ _)
 rw [← hWF]
 clear hWF
 obtain ⟨r0,r1,r2,r3,r4,r5,r6⟩:=gJ h2
 exact bodyPost_ret (by simp [results,Tryz.results50,go_sem, *]) rfl ⟨_,rfl,h1,h3⟩
theorem ML (H:iN) (n:Nat) (sl ea sp s:Int) (w:World) (hl:dO w) (n1:1≤n) (n64:n≤64) (s0:1≤sp) (s1:sp≤1000):
  Calls Tryz.prog 50 #[.agg #[.int .i64 6,.int .i64 (n:Int),.int .i64 sl,.int .i64 ea,.int .i64 sp,.int .u32 s]] w fun e w'=>∃ v,e= .returned (.tuple #[v,.int .i64 0])∧Below w.heap.size w w'∧cQ w.heap.size w' v uE 0 30 [1,1,n,n] (List.replicate (2+2*n) 0) 0 (List.replicate n 0):=by
 have e0:decide (sp<1)=false:=decide_eq_false (by omega)
 have e1:decide (1000<sp)=false:=decide_eq_false (by omega)
 have P:=aA.mk (fun (W:World) (hW:dO W)=>yX uE 0 30 H.k42 n W hW n1 n64)
 have HL:=aA.mk hl
 have C1:=aA.mk (show ((w.alloc (.cells #[.int .i64 6,.int .i64 (n:Int),.int .i64 sl,.int .i64 ea,.int .i64 sp,.int .u32 s] 24)).alloc (.cells #[.slice none 0 0,.int .i64 0,.int .i64 0,.slice none 0 0,.slice none 0 0,.int .i64 0,.slice none 0 0] 114)).heap[w.heap.size+1]?=some (.cells #[.slice none 0 0,.int .i64 0,.int .i64 0,.slice none 0 0,.slice none 0 0,.int .i64 0,.slice none 0 0] 114 (0,0)) from by
  have:=bF (w.alloc (.cells #[.int .i64 6,.int .i64 (n:Int),.int .i64 sl,.int .i64 ea,.int .i64 sp,.int .u32 s] 24)) (.cells #[.slice none 0 0,.int .i64 0,.int .i64 0,.slice none 0 0,.slice none 0 0,.int .i64 0,.slice none 0 0] 114)
  simpa using this)
 have HB0:=aA.mk (aD (aD (Below.refl w.heap.size w) (.cells #[.int .i64 6,.int .i64 (n:Int),.int .i64 sl,.int .i64 ea,.int .i64 sp,.int .u32 s] 24)) (.cells #[.slice none 0 0,.int .i64 0,.int .i64 0,.slice none 0 0,.slice none 0 0,.int .i64 0,.slice none 0 0] 114))
 clear H s0 s1 hl
 go_enter Tryz.func50,Tryz.ntmps50
 go_wp2_with (go_at_call 110;refine (P.out _ (HL.out.below HB0.out)).mono ?_;rintro e w3 ⟨v,rfl,hb,hs⟩;obtain ⟨AL,AS,AI,AR,cL,cS,cI,cR,rfl,hrest⟩:=hs;have HS:=aA.mk (show cQ _ w3 _ uE 0 30 [1,1,n,n] (List.replicate (2+2*n) 0) 0 (List.replicate n 0) from ⟨AL,AS,AI,AR,cL,cS,cI,cR,rfl,hrest⟩);have m0:=aA.mk (aE C1.out hb);have HB:=aA.mk (bA HB0.out hb);clear hb hrest C1 HB0 P;obtain ⟨p0,q0,p1,q1,p2,q2,p3,q3,p4,q4,p5,q5,p6,q6⟩:=fP m0.out)
 clear p0 q0 p1 q1 p2 q2 p3 q3 p4 q4 p5 q5 p6 q6
 simp only [World.size_alloc] at HS
 obtain ⟨WF,hWF,h1,h2,h3⟩:=iC m0.out HB.out HS.out
 simp only [List.length_replicate,List.length_set,List.length_cons,List.length_nil,cB,Nat.zero_add,Nat.reduceAdd] at hWF h2 h3
 change bodyPost _ _ _ _ _ (hU w3 (w.heap.size+1) _ _ _ _ _ _ _)
 rw [← hWF]
 clear hWF
 obtain ⟨r0,r1,r2,r3,r4,r5,r6⟩:=gJ h2
 exact bodyPost_ret (by simp [results,Tryz.results50,go_sem, *]) rfl ⟨_,rfl,h1,h3⟩
theorem DF (H:iN) (n s:Nat) (sl ea sp:Int) (w:World) (hl:dO w) (n1:1≤n) (n64:n≤64) (s0:1≤sp) (s1:sp≤1000):
  Calls Tryz.prog 50 #[.agg #[.int .i64 1,.int .i64 (n:Int),.int .i64 sl,.int .i64 ea,.int .i64 sp,.int .u32 (s:Int)]] w fun e w'=>∃ v,e= .returned (.tuple #[v,.int .i64 0])∧Below w.heap.size w w'∧cQ w.heap.size w' v gW 0 5 [1,1] [(s:Int),(s:Int)] 0 (List.replicate n 0):=by
 have e0:decide (sp<1)=false:=decide_eq_false (by omega)
 have e1:decide (1000<sp)=false:=decide_eq_false (by omega)
 have P:=aA.mk (fun (W:World) (hW:dO W)=>sB gW 0 5 H.ticket n s W hW n1 n64)
 have HL:=aA.mk hl
 have C1:=aA.mk (show ((w.alloc (.cells #[.int .i64 1,.int .i64 (n:Int),.int .i64 sl,.int .i64 ea,.int .i64 sp,.int .u32 (s:Int)] 24)).alloc (.cells #[.slice none 0 0,.int .i64 0,.int .i64 0,.slice none 0 0,.slice none 0 0,.int .i64 0,.slice none 0 0] 114)).heap[w.heap.size+1]?=some (.cells #[.slice none 0 0,.int .i64 0,.int .i64 0,.slice none 0 0,.slice none 0 0,.int .i64 0,.slice none 0 0] 114 (0,0)) from by
  have:=bF (w.alloc (.cells #[.int .i64 1,.int .i64 (n:Int),.int .i64 sl,.int .i64 ea,.int .i64 sp,.int .u32 (s:Int)] 24)) (.cells #[.slice none 0 0,.int .i64 0,.int .i64 0,.slice none 0 0,.slice none 0 0,.int .i64 0,.slice none 0 0] 114)
  simpa using this)
 have HB0:=aA.mk (aD (aD (Below.refl w.heap.size w) (.cells #[.int .i64 1,.int .i64 (n:Int),.int .i64 sl,.int .i64 ea,.int .i64 sp,.int .u32 (s:Int)] 24)) (.cells #[.slice none 0 0,.int .i64 0,.int .i64 0,.slice none 0 0,.slice none 0 0,.int .i64 0,.slice none 0 0] 114))
 clear H s0 s1 hl
 go_enter Tryz.func50,Tryz.ntmps50
 go_wp2_with (go_at_call 105;refine (P.out _ (HL.out.below HB0.out)).mono ?_;rintro e w3 ⟨v,rfl,hb,hs⟩;obtain ⟨AL,AS,AI,AR,cL,cS,cI,cR,rfl,hrest⟩:=hs;have HS:=aA.mk (show cQ _ w3 _ gW 0 5 [1,1] [(s:Int),(s:Int)] 0 (List.replicate n 0) from ⟨AL,AS,AI,AR,cL,cS,cI,cR,rfl,hrest⟩);have m0:=aA.mk (aE C1.out hb);have HB:=aA.mk (bA HB0.out hb);clear hb hrest C1 HB0 P;obtain ⟨p0,q0,p1,q1,p2,q2,p3,q3,p4,q4,p5,q5,p6,q6⟩:=fP m0.out)
 clear p0 q0 p1 q1 p2 q2 p3 q3 p4 q4 p5 q5 p6 q6
 simp only [World.size_alloc] at HS
 obtain ⟨WF,hWF,h1,h2,h3⟩:=iC m0.out HB.out HS.out
 simp only [List.length_replicate,List.length_set,List.length_cons,List.length_nil,cB,Nat.zero_add,Nat.reduceAdd] at hWF h2 h3
 change bodyPost _ _ _ _ _ (hU w3 (w.heap.size+1) _ _ _ _ _ _ _)
 rw [← hWF]
 clear hWF
 obtain ⟨r0,r1,r2,r3,r4,r5,r6⟩:=gJ h2
 exact bodyPost_ret (by simp [results,Tryz.results50,go_sem, *]) rfl ⟨_,rfl,h1,h3⟩
theorem CQ (H:iN) (n ea:Nat) (sl sp s:Int) (w:World) (hl:dO w) (n1:1≤n) (n64:n≤64) (e2n:2≤ea) (e8:ea≤8) (s0:1≤sp) (s1:sp≤1000):
  Calls Tryz.prog 50 #[.agg #[.int .i64 7,.int .i64 (n:Int),.int .i64 sl,.int .i64 (ea:Int),.int .i64 sp,.int .u32 s]] w fun e w'=>∃ v,e= .returned (.tuple #[v,.int .i64 0])∧Below w.heap.size w w'∧cQ w.heap.size w' v gR 0 24 [1,((n*ea+1:Nat):Int)] ((List.replicate (n*ea+2) 0).set 1 1) ea (List.replicate n 0):=by
 have e0:decide (sp<1)=false:=decide_eq_false (by omega)
 have e1:decide (1000<sp)=false:=decide_eq_false (by omega)
 have P:=aA.mk (fun (W:World) (hW:dO W)=>sD gR 0 24 H.clhtry n ea W hW n1 n64 e2n e8)
 have HL:=aA.mk hl
 have C1:=aA.mk (show ((w.alloc (.cells #[.int .i64 7,.int .i64 (n:Int),.int .i64 sl,.int .i64 (ea:Int),.int .i64 sp,.int .u32 s] 24)).alloc (.cells #[.slice none 0 0,.int .i64 0,.int .i64 0,.slice none 0 0,.slice none 0 0,.int .i64 0,.slice none 0 0] 114)).heap[w.heap.size+1]?=some (.cells #[.slice none 0 0,.int .i64 0,.int .i64 0,.slice none 0 0,.slice none 0 0,.int .i64 0,.slice none 0 0] 114 (0,0)) from by
  have:=bF (w.alloc (.cells #[.int .i64 7,.int .i64 (n:Int),.int .i64 sl,.int .i64 (ea:Int),.int .i64 sp,.int .u32 s] 24)) (.cells #[.slice none 0 0,.int .i64 0,.int .i64 0,.slice none 0 0,.slice none 0 0,.int .i64 0,.slice none 0 0] 114)
  simpa using this)
 have HB0:=aA.mk (aD (aD (Below.refl w.heap.size w) (.cells #[.int .i64 7,.int .i64 (n:Int),.int .i64 sl,.int .i64 (ea:Int),.int .i64 sp,.int .u32 s] 24)) (.cells #[.slice none 0 0,.int .i64 0,.int .i64 0,.slice none 0 0,.slice none 0 0,.int .i64 0,.slice none 0 0] 114))
 clear H s0 s1 hl
 go_enter Tryz.func50,Tryz.ntmps50
 go_wp2_with (go_at_call 111;refine (P.out _ (HL.out.below HB0.out)).mono ?_;rintro e w3 ⟨v,rfl,hb,hs⟩;obtain ⟨AL,AS,AI,AR,cL,cS,cI,cR,rfl,hrest⟩:=hs;have HS:=aA.mk (show cQ _ w3 _ gR 0 24 [1,((n*ea+1:Nat):Int)] ((List.replicate (n*ea+2) 0).set 1 1) ea (List.replicate n 0) from ⟨AL,AS,AI,AR,cL,cS,cI,cR,rfl,hrest⟩);have m0:=aA.mk (aE C1.out hb);have HB:=aA.mk (bA HB0.out hb);clear hb hrest C1 HB0 P;obtain ⟨p0,q0,p1,q1,p2,q2,p3,q3,p4,q4,p5,q5,p6,q6⟩:=fP m0.out)
 clear p0 q0 p1 q1 p2 q2 p3 q3 p4 q4 p5 q5 p6 q6
 simp only [World.size_alloc] at HS
 obtain ⟨WF,hWF,h1,h2,h3⟩:=iC m0.out HB.out HS.out
 simp only [List.length_replicate,List.length_set,List.length_cons,List.length_nil,cB,Nat.zero_add,Nat.reduceAdd] at hWF h2 h3
 change bodyPost _ _ _ _ _ (hU w3 (w.heap.size+1) _ _ _ _ _ _ _)
 rw [← hWF]
 clear hWF
 obtain ⟨r0,r1,r2,r3,r4,r5,r6⟩:=gJ h2
 exact bodyPost_ret (by simp [results,Tryz.results50,go_sem, *]) rfl ⟨_,rfl,h1,h3⟩
theorem BJ (H:iN) (n ea:Nat) (sl sp s:Int) (w:World) (hl:dO w) (n1:1≤n) (n64:n≤64) (e1n:1≤ea) (e8:ea≤8) (s0:1≤sp) (s1:sp≤1000):
  Calls Tryz.prog 50 #[.agg #[.int .i64 8,.int .i64 (n:Int),.int .i64 sl,.int .i64 (ea:Int),.int .i64 sp,.int .u32 s]] w fun e w'=>∃ v,e= .returned (.tuple #[v,.int .i64 0])∧Below w.heap.size w w'∧cQ w.heap.size w' v gV 0 18 [1,((n*ea+1:Nat):Int),((n*ea+1:Nat):Int)] (List.replicate (2*n*ea+3) 0) ea (List.replicate n 0):=by
 have e0:decide (sp<1)=false:=decide_eq_false (by omega)
 have e1:decide (1000<sp)=false:=decide_eq_false (by omega)
 have P:=aA.mk (fun (W:World) (hW:dO W)=>sO gV 0 18 H.mcstry n ea W hW n1 n64 e1n e8)
 have HL:=aA.mk hl
 have C1:=aA.mk (show ((w.alloc (.cells #[.int .i64 8,.int .i64 (n:Int),.int .i64 sl,.int .i64 (ea:Int),.int .i64 sp,.int .u32 s] 24)).alloc (.cells #[.slice none 0 0,.int .i64 0,.int .i64 0,.slice none 0 0,.slice none 0 0,.int .i64 0,.slice none 0 0] 114)).heap[w.heap.size+1]?=some (.cells #[.slice none 0 0,.int .i64 0,.int .i64 0,.slice none 0 0,.slice none 0 0,.int .i64 0,.slice none 0 0] 114 (0,0)) from by
  have:=bF (w.alloc (.cells #[.int .i64 8,.int .i64 (n:Int),.int .i64 sl,.int .i64 (ea:Int),.int .i64 sp,.int .u32 s] 24)) (.cells #[.slice none 0 0,.int .i64 0,.int .i64 0,.slice none 0 0,.slice none 0 0,.int .i64 0,.slice none 0 0] 114)
  simpa using this)
 have HB0:=aA.mk (aD (aD (Below.refl w.heap.size w) (.cells #[.int .i64 8,.int .i64 (n:Int),.int .i64 sl,.int .i64 (ea:Int),.int .i64 sp,.int .u32 s] 24)) (.cells #[.slice none 0 0,.int .i64 0,.int .i64 0,.slice none 0 0,.slice none 0 0,.int .i64 0,.slice none 0 0] 114))
 clear H s0 s1 hl
 go_enter Tryz.func50,Tryz.ntmps50
 go_wp2_with (go_at_call 112;refine (P.out _ (HL.out.below HB0.out)).mono ?_;rintro e w3 ⟨v,rfl,hb,hs⟩;obtain ⟨AL,AS,AI,AR,cL,cS,cI,cR,rfl,hrest⟩:=hs;have HS:=aA.mk (show cQ _ w3 _ gV 0 18 [1,((n*ea+1:Nat):Int),((n*ea+1:Nat):Int)] (List.replicate (2*n*ea+3) 0) ea (List.replicate n 0) from ⟨AL,AS,AI,AR,cL,cS,cI,cR,rfl,hrest⟩);have m0:=aA.mk (aE C1.out hb);have HB:=aA.mk (bA HB0.out hb);clear hb hrest C1 HB0 P;obtain ⟨p0,q0,p1,q1,p2,q2,p3,q3,p4,q4,p5,q5,p6,q6⟩:=fP m0.out)
 clear p0 q0 p1 q1 p2 q2 p3 q3 p4 q4 p5 q5 p6 q6
 simp only [World.size_alloc] at HS
 obtain ⟨WF,hWF,h1,h2,h3⟩:=iC m0.out HB.out HS.out
 simp only [List.length_replicate,List.length_set,List.length_cons,List.length_nil,cB,Nat.zero_add,Nat.reduceAdd] at hWF h2 h3
 change bodyPost _ _ _ _ _ (hU w3 (w.heap.size+1) _ _ _ _ _ _ _)
 rw [← hWF]
 clear hWF
 obtain ⟨r0,r1,r2,r3,r4,r5,r6⟩:=gJ h2
 exact bodyPost_ret (by simp [results,Tryz.results50,go_sem, *]) rfl ⟨_,rfl,h1,h3⟩
theorem uS (H:iN) (n j s:Nat) (ea sp:Int) (w:World) (hl:dO w) (n1:1≤n) (n64:n≤64) (hj:j≤6) (hnt:n≤2 ^ j) (hs:s<4294967296) (s0:1≤sp) (s1:sp≤1000):
  Calls Tryz.prog 50 #[.agg #[.int .i64 2,.int .i64 (n:Int),.int .i64 ((2 ^ j:Nat):Int),.int .i64 ea,.int .i64 sp,.int .u32 (s:Int)]] w fun e w'=>∃ v,e= .returned (.tuple #[v,.int .i64 0])∧Below w.heap.size w w'∧cQ w.heap.size w' v (bT j) 0 8 [1,((2 ^ j:Nat):Int)] (((List.replicate (2 ^ j+1) 0).set 0 (s:Int)).set (1+s % 2 ^ j) 1) 0 (List.replicate n 0):=by
 have e0:decide (sp<1)=false:=decide_eq_false (by omega)
 have e1:decide (1000<sp)=false:=decide_eq_false (by omega)
 obtain ⟨txt,ha1,ha2⟩:=H.anderson j hj
 have P:=aA.mk (fun (W:World) (hW:dO W)=>p9 (bT j) 0 8 ha1 n j s ha2 W hW n1 n64 hj hnt hs)
 have HL:=aA.mk hl
 have C1:=aA.mk (show ((w.alloc (.cells #[.int .i64 2,.int .i64 (n:Int),.int .i64 ((2 ^ j:Nat):Int),.int .i64 ea,.int .i64 sp,.int .u32 (s:Int)] 24)).alloc (.cells #[.slice none 0 0,.int .i64 0,.int .i64 0,.slice none 0 0,.slice none 0 0,.int .i64 0,.slice none 0 0] 114)).heap[w.heap.size+1]?=some (.cells #[.slice none 0 0,.int .i64 0,.int .i64 0,.slice none 0 0,.slice none 0 0,.int .i64 0,.slice none 0 0] 114 (0,0)) from by
  have:=bF (w.alloc (.cells #[.int .i64 2,.int .i64 (n:Int),.int .i64 ((2 ^ j:Nat):Int),.int .i64 ea,.int .i64 sp,.int .u32 (s:Int)] 24)) (.cells #[.slice none 0 0,.int .i64 0,.int .i64 0,.slice none 0 0,.slice none 0 0,.int .i64 0,.slice none 0 0] 114)
  simpa using this)
 have HB0:=aA.mk (aD (aD (Below.refl w.heap.size w) (.cells #[.int .i64 2,.int .i64 (n:Int),.int .i64 ((2 ^ j:Nat):Int),.int .i64 ea,.int .i64 sp,.int .u32 (s:Int)] 24)) (.cells #[.slice none 0 0,.int .i64 0,.int .i64 0,.slice none 0 0,.slice none 0 0,.int .i64 0,.slice none 0 0] 114))
 clear H s0 s1 hl ha1 ha2
 go_enter Tryz.func50,Tryz.ntmps50
 go_wp2_with (go_at_call 106;refine (P.out _ (HL.out.below HB0.out)).mono ?_;rintro e w3 ⟨v,rfl,hb,hs⟩;obtain ⟨AL,AS,AI,AR,cL,cS,cI,cR,rfl,hrest⟩:=hs;have HS:=aA.mk (show cQ _ w3 _ (bT j) 0 8 [1,((2 ^ j:Nat):Int)] (((List.replicate (2 ^ j+1) 0).set 0 (s:Int)).set (1+s % 2 ^ j) 1) 0 (List.replicate n 0) from ⟨AL,AS,AI,AR,cL,cS,cI,cR,rfl,hrest⟩);have m0:=aA.mk (aE C1.out hb);have HB:=aA.mk (bA HB0.out hb);clear hb hrest C1 HB0 P;obtain ⟨p0,q0,p1,q1,p2,q2,p3,q3,p4,q4,p5,q5,p6,q6⟩:=fP m0.out)
 clear p0 q0 p1 q1 p2 q2 p3 q3 p4 q4 p5 q5 p6 q6
 simp only [World.size_alloc] at HS
 obtain ⟨WF,hWF,h1,h2,h3⟩:=iC m0.out HB.out HS.out
 simp only [List.length_replicate,List.length_set,List.length_cons,List.length_nil,cB,Nat.zero_add,Nat.reduceAdd] at hWF h2 h3
 change bodyPost _ _ _ _ _ (hU w3 (w.heap.size+1) _ _ _ _ _ _ _)
 rw [← hWF]
 clear hWF
 obtain ⟨r0,r1,r2,r3,r4,r5,r6⟩:=gJ h2
 exact bodyPost_ret (by simp [results,Tryz.results50,go_sem, *]) rfl ⟨_,rfl,h1,h3⟩
end Go.Proofs.YtjopodnlffaogaaGreatDoor.Tp
end
