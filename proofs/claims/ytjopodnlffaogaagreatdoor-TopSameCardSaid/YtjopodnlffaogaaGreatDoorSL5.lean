/- A part of the proof of TopSame: TpQNew. -/
import Derived.Test.YtjopodnlffaogaaGreatDoorSQSpec
set_option linter.unusedVariables false
set_option linter.unusedSimpArgs false
set_option maxRecDepth 100000
set_option maxHeartbeats 4000000
section
namespace Go.Proofs.YtjopodnlffaogaaGreatDoor.Tp
open Go.RowKit Go.Proofs.YtjopodnlffaogaaGreatDoorW.PrintWords Go.Proofs.YtjopodnlffaogaaGreatDoorW.PrintLast Go.Proofs.YtjopodnlffaogaaGreatDoorW.PrintMore
attribute [local go_sem] aU aQ aY aX aI aJ aT aN
structure vS (p:dU) (n:Int):Prop where
 good:∀ i∈p.l,iL p.l.length i
 l1:1≤p.l.length
 l64:p.l.length≤64
 lo0:0≤p.lo
 lo1:p.lo<p.l.length
 un0:0≤p.un
 un1:p.un<p.l.length
 h8:p.szs.length≤8
 hr:∀ s∈p.szs,0≤s∧s≤4096
 hsum:dX p.szs p.szs.length=p.xs.length
 hx:p.xs.length≤8192
 hm:p.m≤8
 n1:1≤p.r7.length
 n64:p.r7.length≤64
 len:(p.r7.length:Int)=n
theorem jK (l:List Int):dX l l.length=l.sum:=by unfold dX;rw [List.take_length]
theorem pH {c:NH} {p:dU} (h:eA c p):vS p c.threads:=by
 cases h with
 |ticket n s sl ea sp n1 n64=>
  refine ⟨DY,Nat.le_add_left 1 8,(show 9≤64 by decide),(show (0:Int)≤0 by decide),(show (0:Int)<((9:Nat):Int) by decide),(show (0:Int)≤5 by decide),(show (5:Int)<((9:Nat):Int) by decide),(show 2≤8 by decide),?_,?_,?_,(show 0≤8 by decide),by simpa using n1,by simpa using n64,by simp⟩
  ·intro y hs
   simp at hs
   subst hs;omega
  ·rw [jK]
   simp
   try omega
  ·show List.length _≤8192
   simp
   try omega
 |anderson n j s ea sp n1 n64 hj hnt hs=>
  have h1:2 ^ j≤2 ^ 6:=Nat.pow_le_pow_right (by decide) hj
  have h2:1≤2 ^ j:=Nat.one_le_two_pow
  refine ⟨wZ j hj,Nat.le_add_left 1 13,(show 14≤64 by decide),(show (0:Int)≤0 by decide),(show (0:Int)<((14:Nat):Int) by decide),(show (0:Int)≤8 by decide),(show (8:Int)<((14:Nat):Int) by decide),(show 2≤8 by decide),?_,?_,?_,(show 0≤8 by decide),by simpa using n1,by simpa using n64,by simp⟩
  ·intro y hs
   generalize 2 ^ j=t at*
   simp at hs
   rcases hs with rfl|rfl <;> omega
  ·rw [jK]
   generalize 2 ^ j=t at*
   simp
   try omega
  ·show List.length _≤8192
   generalize 2 ^ j=t at*
   simp
   try omega
 |graunke n sl ea sp s n1 n64=>
  refine ⟨yD,Nat.le_add_left 1 16,(show 17≤64 by decide),(show (0:Int)≤0 by decide),(show (0:Int)<((17:Nat):Int) by decide),(show (0:Int)≤11 by decide),(show (11:Int)<((17:Nat):Int) by decide),(show 2≤8 by decide),?_,?_,?_,(show 0≤8 by decide),by simpa using n1,by simpa using n64,by simp⟩
  ·intro y hs
   simp at hs
   rcases hs with rfl|rfl <;> omega
  ·rw [jK]
   simp
   try omega
  ·show List.length _≤8192
   simp
   try omega
 |clh n sl ea sp s n1 n64=>
  refine ⟨O5,Nat.le_add_left 1 10,(show 11≤64 by decide),(show (0:Int)≤0 by decide),(show (0:Int)<((11:Nat):Int) by decide),(show (0:Int)≤7 by decide),(show (7:Int)<((11:Nat):Int) by decide),(show 2≤8 by decide),?_,?_,?_,(show 0≤8 by decide),by simpa [cB] using n1,by simpa [cB] using n64,by simp [cB]⟩
  ·intro y hs
   simp at hs
   rcases hs with rfl|rfl <;> omega
  ·rw [jK]
   simp [cB]
   try omega
  ·show List.length _≤8192
   simp [cB]
   try omega
 |mcs n sl ea sp s n1 n64=>
  refine ⟨MG,Nat.le_add_left 1 23,(show 24≤64 by decide),(show (0:Int)≤0 by decide),(show (0:Int)<((24:Nat):Int) by decide),(show (0:Int)≤13 by decide),(show (13:Int)<((24:Nat):Int) by decide),(show 3≤8 by decide),?_,?_,?_,(show 0≤8 by decide),by simpa using n1,by simpa using n64,by simp⟩
  ·intro y hs
   simp at hs
   rcases hs with rfl|rfl <;> omega
  ·rw [jK]
   simp
   try omega
  ·show List.length _≤8192
   simp
   try omega
 |k42 n sl ea sp s n1 n64=>
  refine ⟨PX,Nat.le_add_left 1 41,(show 42≤64 by decide),(show (0:Int)≤0 by decide),(show (0:Int)<((42:Nat):Int) by decide),(show (0:Int)≤30 by decide),(show (30:Int)<((42:Nat):Int) by decide),(show 4≤8 by decide),?_,?_,?_,(show 0≤8 by decide),by simpa using n1,by simpa using n64,by simp⟩
  ·intro y hs
   simp at hs
   rcases hs with rfl|rfl <;> omega
  ·rw [jK]
   simp
   try omega
  ·show List.length _≤8192
   simp
   try omega
 |clhtry n ea sl sp s n1 n64 e2 e8=>
  have hp:n*ea≤512:=Nat.le_trans (Nat.mul_le_mul n64 e8) (by decide)
  refine ⟨CP,Nat.le_add_left 1 27,(show 28≤64 by decide),(show (0:Int)≤0 by decide),(show (0:Int)<((28:Nat):Int) by decide),(show (0:Int)≤24 by decide),(show (24:Int)<((28:Nat):Int) by decide),(show 2≤8 by decide),?_,?_,?_,e8,by simpa using n1,by simpa using n64,by simp⟩
  ·intro y hs
   generalize n*ea=t at*
   simp at hs
   rcases hs with rfl|rfl <;> omega
  ·rw [jK]
   generalize n*ea=t at*
   simp
   try omega
  ·show List.length _≤8192
   generalize n*ea=t at*
   simp
   try omega
 |mcstry n ea sl sp s n1 n64 e1 e8=>
  have hp:n*ea≤512:=Nat.le_trans (Nat.mul_le_mul n64 e8) (by decide)
  refine ⟨DO,Nat.le_add_left 1 34,(show 35≤64 by decide),(show (0:Int)≤0 by decide),(show (0:Int)<((35:Nat):Int) by decide),(show (0:Int)≤18 by decide),(show (18:Int)<((35:Nat):Int) by decide),(show 3≤8 by decide),?_,?_,?_,e8,by simpa using n1,by simpa using n64,by simp⟩
  ·intro y hs
   generalize n*ea=t at*
   simp at hs
   rcases hs with rfl|rfl <;> omega
  ·rw [jK]
   have e:2*n*ea=2*(n*ea):=Nat.mul_assoc 2 n ea
   rw [e]
   generalize n*ea=t at*
   simp
   try omega
  ·show List.length _≤8192
   have e:2*n*ea=2*(n*ea):=Nat.mul_assoc 2 n ea
   rw [e]
   generalize n*ea=t at*
   simp
   try omega
theorem IQ (H:iN) {c:NH} {p:dU} (h:eA c p) (s0:1≤c.spin) (s1:c.spin≤1000) (w:World) (hl:dO w):Calls Tryz.prog 50 #[.agg c.cells] w fun e w'=>∃ v,e= .returned (.tuple #[v,.int .i64 0])∧Below w.heap.size w w'∧p.Is w.heap.size w' v:=by
 cases h with
 |ticket n s sl ea sp n1 n64=>exact DF H n s sl ea sp w hl n1 n64 s0 s1
 |anderson n j s ea sp n1 n64 hj hnt hs=>exact uS H n j s ea sp w hl n1 n64 hj hnt hs s0 s1
 |graunke n sl ea sp s n1 n64=>exact yO H n sl ea sp s w hl n1 n64 s0 s1
 |clh n sl ea sp s n1 n64=>exact OE H n sl ea sp s w hl n1 n64 s0 s1
 |mcs n sl ea sp s n1 n64=>exact M5 H n sl ea sp s w hl n1 n64 s0 s1
 |k42 n sl ea sp s n1 n64=>exact ML H n sl ea sp s w hl n1 n64 s0 s1
 |clhtry n ea sl sp s n1 n64 e2 e8=>exact CQ H n ea sl sp s w hl n1 n64 e2 e8 s0 s1
 |mcstry n ea sl sp s n1 n64 e1 e8=>exact BJ H n ea sl sp s w hl n1 n64 e1 e8 s0 s1
def lN (W:World) (B:Nat) (p:dU) (be:Nat):Prop:=∃ vl bm bc gc vs vb bp bq vr rs gk,oP W B be vl p.l p.lo p.un bm bc gc vs vb p.szs p.xs bp bq p.m vr rs gk (p.r7.map cz)∧W.heap[bq]?=some (.map #[] 0)∧rs.length=p.r7.length∧eH p.m rs∧Since B gc gk bq rs
theorem oP.lower {W:World} {B B' be:Nat} {vl:Value} {l:List dA} {lo un:Int} {bm bc gc:Nat} {vs vb:Value} {szs xs:List Int} {bp bq m:Nat} {vr:Value} {rs:List Rg} {gk:Nat} {cs:List Cr} (h:oP W B be vl l lo un bm bc gc vs vb szs xs bp bq m vr rs gk cs) (hB:B'≤B):oP W B' be vl l lo un bm bc gc vs vb szs xs bp bq m vr rs gk cs:=
 ⟨h.bI,Kd.cT h.code hB,h.mem.lower hB,h.pool.lower hB,h.cores⟩
theorem NR (H:iN) {c:NH} {p:dU} (h:eA c p) (s0:1≤c.spin) (s1:c.spin≤1000) (w:World) (hl:dO w):Calls Tryz.prog 23 #[.agg c.cells] w fun e w'=>∃ be,e= .returned (.tuple #[.pointer (some ⟨be,0,none⟩),.int .i64 0])∧Below w.heap.size w w'∧lN w' w.heap.size p be:=by
 have K:=aA.mk (pH h)
 have P:=aA.mk (fun (W:World) (hW:dO W)=>IQ H h s0 s1 W hW)
 have HL:=aA.mk hl
 have C0:=aA.mk (bF w (.cells c.cells 24))
 have HB0:=aA.mk (aD (Below.refl w.heap.size w) (.cells c.cells 24))
 clear H h s0 s1 hl
 obtain ⟨kd,th,sl,ea,sp,st⟩:=c
 simp only [NH.cells] at P C0 HB0 K ⊢
 obtain rfl:=K.out.len
 go_enter Tryz.func23,Tryz.ntmps23
 go_wp2_with (first|(go_at_call 50;refine (P.out _ (HL.out.below HB0.out)).mono ?_;rintro e w3 ⟨v,rfl,hb,hs⟩;obtain ⟨AL,AS,AI,AR,cL,cS,cI,cR,rfl,hrest⟩:=hs;have HR:=aA.mk hrest;have m0:=aA.mk (aE C0.out hb);have HB:=aA.mk (bA HB0.out hb);clear hb hrest C0 HB0 P HL;have n0:=aA.mk (aV m0.out (.cells #[.slice AL p.l.length cL,.int .i64 p.lo,.int .i64 p.un,.slice AS p.szs.length cS,.slice AI p.xs.length cI,.int .i64 (p.m:Int),.slice AR p.r7.length cR] 114));have HK:=aA.mk (HR.out.2.2.2.2 (w3.alloc (.cells #[.slice AL p.l.length cL,.int .i64 p.lo,.int .i64 p.un,.slice AS p.szs.length cS,.slice AI p.xs.length cI,.int .i64 (p.m:Int),.slice AR p.r7.length cR] 114)) (fun q o hq ho=>aV ho _));have HB4:=aA.mk (aD HB.out (.cells #[.slice AL p.l.length cL,.int .i64 p.lo,.int .i64 p.un,.slice AS p.szs.length cS,.slice AI p.xs.length cI,.int .i64 (p.m:Int),.slice AR p.r7.length cR] 114));have c1:=(aC n0.out 1).trans rfl;have ne1:¬ w.heap.size=w3.heap.size:=Nat.ne_of_lt (aZ m0.out);have ne2:¬ w3.heap.size=w.heap.size:=fun e=>ne1 e.symm)|(go_at_call 51;refine (zA AL AS AI AR cL cS cI cR p.l p.lo p.un p.szs p.xs p.r7 p.m _ HK.out.1 HR.out.1 HR.out.2.1 K.out.good K.out.l1 K.out.l64 K.out.lo0 K.out.lo1 K.out.un0 K.out.un1 HK.out.2.1 HR.out.2.2.1 HR.out.2.2.2.1 HK.out.2.2.1 K.out.h8 K.out.hr K.out.hsum K.out.hx K.out.hm HK.out.2.2.2 K.out.n1 K.out.n64).mono ?_;rintro e w5 ⟨be,vl,bm,bc,gc,vs,vb,bp,bq,vr,rs,gk,rfl,hb5,hX,hq,hlen,hrs⟩;have HX:=aA.mk hX;have HQ:=aA.mk (⟨hq,hlen,hrs⟩:_∧_∧_);have HB5:=aA.mk (bA HB4.out hb5);have HS4:=aA.mk HB4.out.size;clear hb5 hX hq hlen hrs HK HR n0 m0 c1 ne1 ne2))
 go_ret2
 exact ⟨be,rfl,HB5.out,vl,bm,bc,gc,vs,vb,bp,bq,vr,rs,gk,HX.out.lower HS4.out,HQ.out.1,HQ.out.2.1,HQ.out.2.2.1,HQ.out.2.2.2.lower HS4.out⟩
end Go.Proofs.YtjopodnlffaogaaGreatDoor.Tp
end
