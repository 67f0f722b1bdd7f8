/- A part of the proof of TopSame: TpSpec0, TpSpecClh, TpSpecTicket, TpSpecMcs, TpSpecK42, TpSpecMcstry, TpSpecClhtry, TpSpecGraunke, TpAbs23. -/
import Derived.Test.YtjopodnlffaogaaGreatDoorSAbs21
import Derived.Laws.CopyOwn
set_option linter.unusedVariables false
set_option linter.unusedSimpArgs false
set_option maxRecDepth 100000
set_option maxHeartbeats 4000000
section
namespace Go.Proofs.YtjopodnlffaogaaGreatDoor.Tp
open Go.RowKit Go.Proofs.YtjopodnlffaogaaGreatDoorW.PrintWords Go.Proofs.YtjopodnlffaogaaGreatDoorW.PrintLast Go.Proofs.YtjopodnlffaogaaGreatDoorW.PrintMore
attribute [local go_sem] aU aQ aY aX aI aJ aT aN
theorem rE {K:IntKind} {W:World} {g t:Nat} {xs:List Int} (h:W.heap[g]?=some (.cells (xs.map (Value.int K)).toArray t (0,0))) (hl:xs.length≤9223372036854775807):Kd.C (Kd.int K) W (some ⟨g,0,none⟩) xs.length xs:=by
 refine ⟨rfl,hl,fun _=>⟨_,rfl,fun j p hj=>⟨[.int K p],rfl,rfl,fun i u hu=>?_⟩⟩⟩
 cases i with
 |succ i=>simp at hu
 |zero=>
  simp at hu
  subst hu
  have hc:=aC h (j*1+0)
  have e:(Addr.mk g 0 none).add (j*(Kd.int K).sz+0)=⟨g,j*1+0,none⟩:=by
   show (Addr.mk g 0 none).add (j*1+0)=_
   rcases j with _|j <;> simp [Addr.add]
  rw [e,hc]
  simp [hj]
def dO (W:World):Prop:=Abs.Laid W∧∃ m,W.cell? ⟨3,0,none⟩=some (.int .i64 m)
theorem dO.below {W W':World} (h:dO W) (hb:Below W.heap.size W W'):dO W':=by
 refine ⟨h.1.below hb,?_⟩
 obtain ⟨m,hm⟩:=h.2
 have hlt:3<W.heap.size:=by
  rcases Nat.lt_or_ge 3 W.heap.size with h|h
  ·exact h
  ·have:W.heap[3]?=none:=Array.getElem?_eq_none h
   simp [World.cell?,this] at hm
 refine ⟨m,?_⟩
 have he:=hb.block 3 hlt
 rw [← hm]
 simp only [World.cell?,he]
def dZ (t:ByteArray) (l:List dA) (lo un:Int):Prop:=∀ w W:World,dO w→Below w.heap.size w W→Calls Tryz.prog 159 #[.string t] W fun e w'=>
 ∃ A c,e= .returned (.tuple #[.agg #[.slice A l.length c,.int .i64 lo,.int .i64 un],.int .i64 0,.int .i64 0])∧Kd.R e9 214 w' W.heap.size (fun _=>True) (.slice A l.length c) l∧Below W.heap.size W w'
def mR (f:FuncId) (args:Array Value) (t:ByteArray):Prop:=∀ w W:World,dO w→Below w.heap.size w W→Calls Tryz.prog f args W fun e w'=>e= .returned (.string t)∧Below W.heap.size W w'
def zK (B:Nat) (w' W:World):Prop:=∀ (q:Nat) (o:Obj),B≤q→w'.heap[q]?=some o→W.heap[q]?=some o
theorem zK.trans {B:Nat} {w w1 w2:World} (h:zK B w w1) (k:zK B w1 w2):zK B w w2:=fun q o hq ho=>k q o hq (h q o hq ho)
theorem IM {α:Type} {d:Kd α} {e B:Nat} {w w1:World} {ok:Nat→Prop} {v:Value} {xs:List α} (h:Kd.R d e w B ok v xs) (k:zK B w w1):Kd.R d e w1 B ok v xs:=
 Kd.fB (Kd.eD (Kd.eW h) (fun q hq _=>by
  obtain ⟨_,h1,_,_,_,cells,hc⟩:=hq
  rw [k q _ h1 hc,hc])) (fun _ hk=>hk.1)
def cQ (B:Nat) (w':World) (v:Value) (l:List dA) (lo un:Int) (szs xs:List Int) (m:Int) (r7:List Int):Prop:=
 ∃ AL AS AI AR cL cS cI cR,v= .agg #[.slice AL l.length cL,.int .i64 lo,.int .i64 un,.slice AS szs.length cS,.slice AI xs.length cI,.int .i64 m,.slice AR r7.length cR]∧
 l.length≤cL∧(AL=none→l= [])∧szs.length≤cS∧(AS=none→szs= [])∧
 ∀ W,zK B w' W→Kd.C e9 W AL l.length l∧Kd.C (Kd.int .i64) W AS szs.length szs∧Kd.C (Kd.int .u32) W AI xs.length xs∧Kd.C (Kd.int .u32) W AR r7.length r7
theorem cQ.XA {B:Nat} {w' W':World} {v:Value} {l:List dA} {lo un:Int} {szs xs:List Int} {m:Int} {r7:List Int} (h:cQ B w' v l lo un szs xs m r7) (k:zK B w' W'):cQ B W' v l lo un szs xs m r7:=by
 obtain ⟨AL,AS,AI,AR,cL,cS,cI,cR,h1,h2,h3,h4,h5,h6⟩:=h
 exact ⟨AL,AS,AI,AR,cL,cS,cI,cR,h1,h2,h3,h4,h5,fun W hk=>h6 W (k.trans hk)⟩
theorem AW {A:Option Addr} {w:World} {l:List dA} (h:Kd.C e9 w A l.length l):A=none→l= []:=by
 rintro rfl
 cases l with
 |nil=>rfl
 |cons x l=>
  obtain ⟨ad,e,_⟩:=h.2.2 (by simp)
  cases e
theorem set3 {W:World} {g t:Nat} {cs:Array Value} (h:W.heap[g]?=some (.cells cs t (0,0))) (a b c:Value):(((W.setCell ⟨g,0,none⟩ a).setCell ⟨g,1,none⟩ b).setCell ⟨g,2,none⟩ c).heap[g]?=some (.cells (((cs.setIfInBounds 0 a).setIfInBounds 1 b).setIfInBounds 2 c) t (0,0)):=
 bE (bE (bE h 0 a) 1 b) 2 c
theorem vX (W:World) (g:Nat) (a b c:Value):Mod (fun k=>k=g) W (((W.setCell ⟨g,0,none⟩ a).setCell ⟨g,1,none⟩ b).setCell ⟨g,2,none⟩ c):=
 Mod.setCell (S:=fun k=>k=g) (Mod.setCell (S:=fun k=>k=g) (Mod.setCell (S:=fun k=>k=g) (Mod.refl _ W) (p:=⟨g,0,none⟩) rfl a) (p:=⟨g,1,none⟩) rfl b) (p:=⟨g,2,none⟩) rfl c
def hU (W:World) (g:Nat) (a b c d e f h:Value):World:=((((((W.setCell ⟨g,0,none⟩ a).setCell ⟨g,1,none⟩ b).setCell ⟨g,2,none⟩ c).setCell ⟨g,3,none⟩ d).setCell ⟨g,4,none⟩ e).setCell ⟨g,5,none⟩ f).setCell ⟨g,6,none⟩ h
theorem vR {W:World} {g t:Nat} {x0 x1 x2 x3 x4 x5 x6:Value} (hb:W.heap[g]?=some (.cells #[x0,x1,x2,x3,x4,x5,x6] t (0,0))) (a b c d e f h:Value):(hU W g a b c d e f h).heap[g]?=some (.cells #[a,b,c,d,e,f,h] t (0,0)):=
 (bE (bE (bE (bE (set3 hb a b c) 3 d) 4 e) 5 f) 6 h).trans (by simp)
theorem vN (W:World) (g:Nat) (a b c d e f h:Value):Mod (fun k=>k=g) W (hU W g a b c d e f h):=
 Mod.setCell (S:=fun k=>k=g) (Mod.setCell (S:=fun k=>k=g) (Mod.setCell (S:=fun k=>k=g) (Mod.setCell (S:=fun k=>k=g) (vX W g a b c) (p:=⟨g,3,none⟩) rfl d) (p:=⟨g,4,none⟩) rfl e) (p:=⟨g,5,none⟩) rfl f) (p:=⟨g,6,none⟩) rfl h
def gC (W:World) (g:Nat) (a b c:Value):World:=((W.setCell ⟨g,0,none⟩ a).setCell ⟨g,1,none⟩ b).setCell ⟨g,2,none⟩ c
theorem kL {S:Nat→Prop} {B:Nat} {w w1 w2:World} (h:Below B w w1) (hb:B≤w.heap.size) (k:Mod S w1 w2) (hS:∀ q,S q→B≤q):Below B w w2:=
 ⟨k.os.trans h.os,k.tape.trans h.tape,k.output.trans h.output,Nat.le_trans h.size k.size,fun i hi=>(k.block i (by have:=h.size;omega) (fun hs=>by have:=hS i hs;omega)).trans (h.block i hi)⟩
theorem kX {w w6:World} {gx gs gi gr:Nat} {A:Option Addr} {c:Nat} {l:List dA} {lo un:Int} {szs xs r7:List Int} {m:Int} {x0 x1 x2 x3 x4 x5 x6 y0 y1 y2 y3 y4 y5 y6:Value}
  (m0:w6.heap[w.heap.size]?=some (.cells #[y0,y1,y2,y3,y4,y5,y6] 114 (0,0))) (mx:w6.heap[gx]?=some (.cells #[x0,x1,x2,x3,x4,x5,x6] 114 (0,0))) (lt:w.heap.size<gx) (hB:Below w.heap.size w w6)
  (ms:w6.heap[gs]?=some (.cells (szs.map (Value.int .i64)).toArray 3 (0,0))) (mi:w6.heap[gi]?=some (.cells (xs.map (Value.int .u32)).toArray 22 (0,0))) (mr:w6.heap[gr]?=some (.cells (r7.map (Value.int .u32)).toArray 22 (0,0)))
  (hgs:w.heap.size≤gs) (hgi:w.heap.size≤gi) (hgr:w.heap.size≤gr) (hv:Kd.R e9 214 w6 w.heap.size (fun _=>True) (.slice A l.length c) l) (b1:szs.length≤1000000) (b2:xs.length≤1000000) (b3:r7.length≤1000000):
  ∃ WF,WF=hU (gC w6 gx (.slice A l.length c) (.int .i64 lo) (.int .i64 un)) w.heap.size (.slice A l.length c) (.int .i64 lo) (.int .i64 un) (.slice (some ⟨gs,0,none⟩) szs.length szs.length) (.slice (some ⟨gi,0,none⟩) xs.length xs.length) (.int .i64 m) (.slice (some ⟨gr,0,none⟩) r7.length r7.length)∧
  Below w.heap.size w WF∧WF.heap[w.heap.size]?=some (.cells #[.slice A l.length c,.int .i64 lo,.int .i64 un,.slice (some ⟨gs,0,none⟩) szs.length szs.length,.slice (some ⟨gi,0,none⟩) xs.length xs.length,.int .i64 m,.slice (some ⟨gr,0,none⟩) r7.length r7.length] 114 (0,0))∧
  cQ w.heap.size WF (.agg #[.slice A l.length c,.int .i64 lo,.int .i64 un,.slice (some ⟨gs,0,none⟩) szs.length szs.length,.slice (some ⟨gi,0,none⟩) xs.length xs.length,.int .i64 m,.slice (some ⟨gr,0,none⟩) r7.length r7.length]) l lo un szs xs m r7:=by
 refine ⟨_,rfl,?_⟩
 have n1:Mod (fun k=>k=gx) w6 (gC w6 gx (.slice A l.length c) (.int .i64 lo) (.int .i64 un)):=vX w6 gx _ _ _
 generalize gC w6 gx (.slice A l.length c) (.int .i64 lo) (.int .i64 un)=W3 at n1 ⊢
 have n2:=vN W3 w.heap.size (.slice A l.length c) (.int .i64 lo) (.int .i64 un) (.slice (some ⟨gs,0,none⟩) szs.length szs.length) (.slice (some ⟨gi,0,none⟩) xs.length xs.length) (.int .i64 m) (.slice (some ⟨gr,0,none⟩) r7.length r7.length)
 have n3:W3.heap[w.heap.size]?=some (.cells #[y0,y1,y2,y3,y4,y5,y6] 114 (0,0)):=n1.bI m0 (by omega)
 have n4:=vR n3 (.slice A l.length c) (.int .i64 lo) (.int .i64 un) (.slice (some ⟨gs,0,none⟩) szs.length szs.length) (.slice (some ⟨gi,0,none⟩) xs.length xs.length) (.int .i64 m) (.slice (some ⟨gr,0,none⟩) r7.length r7.length)
 generalize hU W3 w.heap.size (.slice A l.length c) (.int .i64 lo) (.int .i64 un) (.slice (some ⟨gs,0,none⟩) szs.length szs.length) (.slice (some ⟨gi,0,none⟩) xs.length xs.length) (.int .i64 m) (.slice (some ⟨gr,0,none⟩) r7.length r7.length)=WF at n2 n4 ⊢
 have hm:Mod (fun k=>k=gx∨k=w.heap.size) w6 WF:=(n1.mono (fun _ _ h=> .inl h)).trans n2 (fun _ _ h=> .inr h)
 have aw:∀ q,(q=gx∨q=w.heap.size)→∃ c t,w6.heap[q]?=some (.cells c t (0,0))∧t=114:=by
  rintro q (rfl|rfl)
  ·exact ⟨_,_,mx,rfl⟩
  ·exact ⟨_,_,m0,rfl⟩
 have tb:∀ {g t:Nat} {cs:Array Value},w6.heap[g]?=some (.cells cs t (0,0))→t≠114→WF.heap[g]?=some (.cells cs t (0,0)):=fun hh ht=>hm.qT hh (fun q hq=>by
  obtain ⟨c,t,h1,rfl⟩:=aw q hq
  exact ⟨c,_,h1,ht⟩)
 have hv2:Kd.R e9 214 WF w.heap.size (fun _=>True) (.slice A l.length c) l:=iT hv hm (fun q hq=>by
  obtain ⟨c,t,h1,rfl⟩:=aw q hq
  exact ⟨c,_,h1,by decide⟩)
 obtain ⟨_,hc,hC⟩:=Kd.dC hv2
 refine ⟨kL hB (Nat.le_refl _) hm (by rintro q (rfl|rfl) <;> omega),n4,A,_,_,_,c,_,_,_,rfl,hc,AW hC,Nat.le_refl _,(by intro h;cases h),fun W hk=>⟨(Kd.dC (IM hv2 hk)).2.2,rE (hk _ _ hgs (tb ms (by decide))) (by omega),rE (hk _ _ hgi (tb mi (by decide))) (by omega),rE (hk _ _ hgr (tb mr (by decide))) (by omega)⟩⟩
structure Env (W w:World) (z:Array Value) (os:List (Nat × Obj)):Prop where
 b0:W.heap[w.heap.size]?=some (.cells z 114 (0,0))
 hb:Below w.heap.size w W
 at_:∀ p,p∈os→W.heap[p.1]?=some p.2∧w.heap.size<p.1
theorem Env.alloc {W w:World} {z:Array Value} {os:List (Nat × Obj)} (h:Env W w z os) (o:Obj):Env (W.alloc o) w z ((W.heap.size,o) :: os):=
 ⟨aV h.b0 o,aD h.hb o,by
  intro p hp
  rcases List.mem_cons.1 hp with rfl|hp
  ·exact ⟨bF W o,aZ h.b0⟩
  ·exact ⟨aV (h.at_ p hp).1 o,(h.at_ p hp).2⟩⟩
def cA:Array Value:=#[.slice none 0 0,.int .i64 0,.int .i64 0,.slice none 0 0,.slice none 0 0,.int .i64 0,.slice none 0 0]
theorem rJ (xs:List Int) (i:Nat) (y:Int):(xs.map (Value.int .u32)).toArray.setIfInBounds i (.int .u32 y)=((xs.set i y).map (Value.int .u32)).toArray:=by
 rw [List.setIfInBounds_toArray,List.map_set]
theorem rW (k:Nat):bL k (.int .u32 0)=((List.replicate k (0:Int)).map (Value.int .u32)).toArray:=by simp [bL]
theorem FJ (a b:Nat) (ha:a<9223372036854775808) (hb:b<9223372036854775808):Go.bits .and .i64 (a:Int) (b:Int)=((a&&& b:Nat):Int):=by
 have h1:(a&&& b)≤a:=Nat.and_le_left
 have key:(BitVec.ofInt 64 (a:Int)&&& BitVec.ofInt 64 (b:Int)).toNat=a&&& b:=by
  rw [BitVec.toNat_and,BitVec.toNat_ofInt,BitVec.toNat_ofInt]
  have e1:((a:Int) % ((2 ^ 64:Nat):Int)).toNat=a:=by omega
  have e2:((b:Int) % ((2 ^ 64:Nat):Int)).toNat=b:=by omega
  rw [e1,e2]
 show IntKind.i64.wrap ((BitVec.ofInt 64 (a:Int)&&& BitVec.ofInt 64 (b:Int)).toNat:Nat)=_
 rw [key,IntKind.wrap_i64]
 omega
theorem E8 (s j:Nat) (hs:s<4294967296) (hj:j≤6):Go.bits .and .i64 (s:Int) (wrap64 (((2 ^ j:Nat):Int) - 1))=((s % 2 ^ j:Nat):Int):=by
 have h1:2 ^ j≤2 ^ 6:=Nat.pow_le_pow_right (by decide) hj
 have h2:1≤2 ^ j:=Nat.one_le_two_pow
 have h3:wrap64 (((2 ^ j:Nat):Int) - 1)=((2 ^ j - 1:Nat):Int):=by
  unfold wrap64
  generalize 2 ^ j=t at h1 h2
  omega
 rw [h3,FJ s (2 ^ j - 1) (by omega) (by omega),Nat.and_two_pow_sub_one_eq_mod]
theorem OU {w w6:World} {gx gs gi:Nat} {AR:Option Addr} {cR:Nat} {A:Option Addr} {c:Nat} {l:List dA} {lo un:Int} {szs xs r7:List Int} {m:Int} {x0 x1 x2 x3 x4 x5 x6 y0 y1 y2 y3 y4 y5 y6:Value}
  (m0:w6.heap[w.heap.size]?=some (.cells #[y0,y1,y2,y3,y4,y5,y6] 114 (0,0))) (mx:w6.heap[gx]?=some (.cells #[x0,x1,x2,x3,x4,x5,x6] 114 (0,0))) (lt:w.heap.size<gx) (hB:Below w.heap.size w w6)
  (ms:w6.heap[gs]?=some (.cells (szs.map (Value.int .i64)).toArray 3 (0,0))) (mi:w6.heap[gi]?=some (.cells (xs.map (Value.int .u32)).toArray 22 (0,0))) (mr:Kd.R (Kd.int .u32) 22 w6 w.heap.size (fun _=>True) (.slice AR r7.length cR) r7)
  (hgs:w.heap.size≤gs) (hgi:w.heap.size≤gi) (hv:Kd.R e9 214 w6 w.heap.size (fun _=>True) (.slice A l.length c) l) (b1:szs.length≤1000000) (b2:xs.length≤1000000) (b3:r7.length≤1000000):
  ∃ WF,WF=hU (gC w6 gx (.slice A l.length c) (.int .i64 lo) (.int .i64 un)) w.heap.size (.slice A l.length c) (.int .i64 lo) (.int .i64 un) (.slice (some ⟨gs,0,none⟩) szs.length szs.length) (.slice (some ⟨gi,0,none⟩) xs.length xs.length) (.int .i64 m) (.slice AR r7.length cR)∧
  Below w.heap.size w WF∧WF.heap[w.heap.size]?=some (.cells #[.slice A l.length c,.int .i64 lo,.int .i64 un,.slice (some ⟨gs,0,none⟩) szs.length szs.length,.slice (some ⟨gi,0,none⟩) xs.length xs.length,.int .i64 m,.slice AR r7.length cR] 114 (0,0))∧
  cQ w.heap.size WF (.agg #[.slice A l.length c,.int .i64 lo,.int .i64 un,.slice (some ⟨gs,0,none⟩) szs.length szs.length,.slice (some ⟨gi,0,none⟩) xs.length xs.length,.int .i64 m,.slice AR r7.length cR]) l lo un szs xs m r7:=by
 refine ⟨_,rfl,?_⟩
 have n1:Mod (fun k=>k=gx) w6 (gC w6 gx (.slice A l.length c) (.int .i64 lo) (.int .i64 un)):=vX w6 gx _ _ _
 generalize gC w6 gx (.slice A l.length c) (.int .i64 lo) (.int .i64 un)=W3 at n1 ⊢
 have n2:=vN W3 w.heap.size (.slice A l.length c) (.int .i64 lo) (.int .i64 un) (.slice (some ⟨gs,0,none⟩) szs.length szs.length) (.slice (some ⟨gi,0,none⟩) xs.length xs.length) (.int .i64 m) (.slice AR r7.length cR)
 have n3:W3.heap[w.heap.size]?=some (.cells #[y0,y1,y2,y3,y4,y5,y6] 114 (0,0)):=n1.bI m0 (by omega)
 have n4:=vR n3 (.slice A l.length c) (.int .i64 lo) (.int .i64 un) (.slice (some ⟨gs,0,none⟩) szs.length szs.length) (.slice (some ⟨gi,0,none⟩) xs.length xs.length) (.int .i64 m) (.slice AR r7.length cR)
 generalize hU W3 w.heap.size (.slice A l.length c) (.int .i64 lo) (.int .i64 un) (.slice (some ⟨gs,0,none⟩) szs.length szs.length) (.slice (some ⟨gi,0,none⟩) xs.length xs.length) (.int .i64 m) (.slice AR r7.length cR)=WF at n2 n4 ⊢
 have hm:Mod (fun k=>k=gx∨k=w.heap.size) w6 WF:=(n1.mono (fun _ _ h=> .inl h)).trans n2 (fun _ _ h=> .inr h)
 have aw:∀ q,(q=gx∨q=w.heap.size)→∃ c t,w6.heap[q]?=some (.cells c t (0,0))∧t=114:=by
  rintro q (rfl|rfl)
  ·exact ⟨_,_,mx,rfl⟩
  ·exact ⟨_,_,m0,rfl⟩
 have tb:∀ {g t:Nat} {cs:Array Value},w6.heap[g]?=some (.cells cs t (0,0))→t≠114→WF.heap[g]?=some (.cells cs t (0,0)):=fun hh ht=>hm.qT hh (fun q hq=>by
  obtain ⟨c,t,h1,rfl⟩:=aw q hq
  exact ⟨c,_,h1,ht⟩)
 have hv2:Kd.R e9 214 WF w.heap.size (fun _=>True) (.slice A l.length c) l:=iT hv hm (fun q hq=>by
  obtain ⟨c,t,h1,rfl⟩:=aw q hq
  exact ⟨c,_,h1,by decide⟩)
 have hr2:Kd.R (Kd.int .u32) 22 WF w.heap.size (fun _=>True) (.slice AR r7.length cR) r7:=iT mr hm (fun q hq=>by
  obtain ⟨c,t,h1,rfl⟩:=aw q hq
  exact ⟨c,_,h1,by decide⟩)
 obtain ⟨_,hc,hC⟩:=Kd.dC hv2
 refine ⟨kL hB (Nat.le_refl _) hm (by rintro q (rfl|rfl) <;> omega),n4,A,_,_,_,c,_,_,_,rfl,hc,AW hC,Nat.le_refl _,(by intro h;cases h),fun W hk=>⟨(Kd.dC (IM hv2 hk)).2.2,rE (hk _ _ hgs (tb ms (by decide))) (by omega),rE (hk _ _ hgi (tb mi (by decide))) (by omega),(Kd.dC (IM hr2 hk)).2.2⟩⟩
def nN (n:Nat):List Int:=(List.range n).map (fun i=>((i+1:Nat):Int))
theorem cB (n:Nat):(nN n).length=n:=by simp [nN]
theorem M3 (n:Nat):nN (n+1)=nN n++ [(n:Int)+1]:=by simp [nN,List.range_succ]
theorem info22:(Tryz.prog.info? 22).map (fun i=>(i.zero,i.size,i.bytes))=some (some (.int .u32 0),1,4):=by kernel_rfl
theorem yH (l:List dA) (lo un:Int) (ha:dZ qW l lo un) (n:Nat) (w:World) (hl:dO w) (n1:1≤n) (n64:n≤64):
  Calls Tryz.prog 108 #[.int .i64 (n:Int)] w fun e w'=>∃ v,e= .returned (.tuple #[v,.int .i64 0])∧Below w.heap.size w w'∧cQ w.heap.size w' v l lo un [1,((n+1:Nat):Int)] (List.replicate (n+2) 0) 0 (nN n):=by
 have HA:=aA.mk ha
 have HL:=aA.mk hl
 have e0:decide ((n:Int)<1)=false:=decide_eq_false (by omega)
 have e1:decide (64<(n:Int))=false:=decide_eq_false (by omega)
 obtain ⟨q,hq⟩:∃ q:Nat,q=n+1:=⟨_,rfl⟩
 obtain ⟨k,hk⟩:∃ k:Nat,k=n+2:=⟨_,rfl⟩
 rw [← hk,← hq]
 have hw1:IntKind.i64.wrap ((n:Int)+1)=(q:Int):=cD _ q (by omega) (by omega)
 have hw2:IntKind.i64.wrap ((n:Int)+2)=(k:Int):=cD _ k (by omega) (by omega)
 have hw3:wrap64 ((n:Int)+1)=(q:Int):=by unfold wrap64;omega
 have hw4:wrap64 ((n:Int)+2)=(k:Int):=by unfold wrap64;omega
 have hmk:=fun W:World=>dN (P:=Tryz.prog) 33 22 (.int .u32 0) 4 Tryz.underlying33 (by kernel_rfl) rfl (by decide) k (by omega) W
 have HKN:=aA.mk (⟨hk,hq,n64⟩:k=n+2∧q=n+1∧n≤64)
 clear ha hl n1 hk hq
 go_enter Tryz.func108,Tryz.ntmps108
 go_wp2_with fail
 have E:=aA.mk (show Env _ w cA _ from ((Env.mk (W:=w.alloc (.cells cA 114)) (os:= []) (bF w _) (aD (Below.refl w.heap.size w) _) (by intro p hp;cases hp)).alloc (.cells #[.int .i64 1,.int .i64 (q:Int)] 3)).alloc (.cells (bL k (.int .u32 0)) 22))
 have E2:=aA.mk (E.out.alloc (.cells #[.slice none 0 0,.int .i64 0,.int .i64 0,.slice (some ⟨w.heap.size+1,0,none⟩) 2 2,.slice (some ⟨w.heap.size+1+1,0,none⟩) k k,.int .i64 0,.slice none 0 0] 114))
 have F_x:=aA.mk (E2.out.at_ _ (List.mem_cons_self)).1
 have G_x:=aA.mk (E2.out.at_ _ (List.mem_cons_self)).2
 have F_i:=aA.mk (E2.out.at_ _ (List.mem_cons_of_mem _ List.mem_cons_self)).1
 have G_i:=aA.mk (E2.out.at_ _ (List.mem_cons_of_mem _ List.mem_cons_self)).2
 have G_s:=aA.mk (E2.out.at_ _ (List.mem_cons_of_mem _ (List.mem_cons_of_mem _ List.mem_cons_self))).2
 have F_s:=aA.mk (E2.out.at_ _ (List.mem_cons_of_mem _ (List.mem_cons_of_mem _ List.mem_cons_self))).1
 have B0:=aA.mk E2.out.b0
 have HB:=aA.mk E2.out.hb
 clear E E2
 simp only [World.size_alloc,cA] at F_x G_x F_i G_i F_s G_s B0 HB
 clear hmk
 generalize (((w.alloc (.cells #[.slice none 0 0,.int .i64 0,.int .i64 0,.slice none 0 0,.slice none 0 0,.int .i64 0,.slice none 0 0] 114)).alloc (.cells #[.int .i64 1,.int .i64 (q:Int)] 3)).alloc (.cells (bL k (.int .u32 0)) 22)).alloc (.cells #[.slice none 0 0,.int .i64 0,.int .i64 0,.slice (some ⟨w.heap.size+1,0,none⟩) 2 2,.slice (some ⟨w.heap.size+1+1,0,none⟩) k k,.int .i64 0,.slice none 0 0] 114)=wh at F_x F_i F_s B0 HB ⊢
 generalize w.heap.size+1+1+1=g_x at F_x G_x ⊢
 generalize w.heap.size+1+1=g_i at F_x F_i G_i ⊢
 generalize w.heap.size+1=g_s at F_x F_s G_s ⊢
 obtain ⟨X,hX⟩:∃ X,X=wh.heap.size:=⟨_,rfl⟩
 have HX:=aA.mk hX
 have GIX:=aA.mk (show g_i<X by rw [hX];exact aZ F_i.out)
 clear hX
 go_loopw [21] (fun i wr=>∃ (j:Nat) (v:Value),j≤n∧i= .int .i64 j∧aA (X≤wr.heap.size)∧aA (wr.heap[g_x]?=some (.cells #[.slice none 0 0,.int .i64 0,.int .i64 0,.slice (some ⟨g_s,0,none⟩) 2 2,.slice (some ⟨g_i,0,none⟩) k k,.int .i64 0,v] 114 (0,0)))∧aA (wr.heap[w.heap.size]?=some (.cells #[.slice none 0 0,.int .i64 0,.int .i64 0,.slice none 0 0,.slice none 0 0,.int .i64 0,.slice none 0 0] 114 (0,0)))∧aA (wr.heap[g_s]?=some (.cells #[.int .i64 1,.int .i64 (q:Int)] 3 (0,0)))∧aA (wr.heap[g_i]?=some (.cells (bL k (.int .u32 0)) 22 (0,0)))∧aA (Kd.R (Kd.int .u32) 22 wr w.heap.size (fun q=>X≤q) v (nN j))∧aA (Below w.heap.size w wr)) (fun i _=>n - (intOf i).toNat)
 case atStart=>exact ⟨0,.slice none 0 0,Nat.zero_le _,rfl,⟨Nat.le_of_eq HX.out⟩,F_x,B0,F_s,F_i,⟨Kd.lA _ _ _ _ _⟩,HB⟩
 case round=>
  have HW:=aA.mk HB.out.size
  clear F_x B0 F_s F_i HB HX
  obtain ⟨j,v,hj,rfl,XW,BX,B0,FS,FI,HR,HB⟩:=hrel
  by_cases hlt:j<n
  ·have HK:=aA.mk (⟨hlt,n64⟩:j<n∧n≤64)
   have hT:decide ((j:Int)<(n:Int))=true:=decide_eq_true (by omega)
   have c6:=(aC BX.out 6).trans rfl
   have hu:wrap64 ((j:Int)+1)=(j:Int)+1:=by unfold wrap64;omega
   have hu3:IntKind.u32.wrap ((j:Int)+1)=(j:Int)+1:=IntWalk.u32_in _ (by omega)
   go_wp2_with ((with_reducible refine dT (b:= .append) (xs:=#[.tmp 25,.tmp 29]) rfl ?_);at_builtin;refine Kd.kR (Kd.int .u32) (w0:=w) (w.heap.size) rfl (.tmp 25) (.tmp 29) 33 22 (.int .u32 0) 4 rfl Tryz.underlying33 info22 rfl (by decide) (by omega) v (nN j) ((j:Int)+1) [.int .u32 ((j:Int)+1)] (fun q=>X≤q) (fun _=>False) rfl (by first|(go_simp;done)|(go_simp;rfl)) ?aP (fun _ hk=>hk.elim) (fun q hq=>Nat.le_trans XW.out hq) ?aO ?aB ?aS ?aL ?_;(case aP=>exact rfl);(case aO=>exact (by (with_reducible repeat (first|apply Kd.cO|apply Kd.eX));exact HR.out));(case aB=>exact (by repeat (first|exact HB.out|apply aD|apply aH)));(case aS=>exact (by repeat (first|exact (HB.out).size|apply Nat.le_trans (HB.out).size;simp)));(case aL=>rw [cB];have:=HK.out;omega);intro v1 w8 ho hb hg hat;have b0:=aA.mk (j9 HR.out hg BX.out (by decide));have c0:=aA.mk (j9 HR.out hg B0.out (by decide));have s0:=aA.mk (j9 HR.out hg FS.out (by decide));have i0:=aA.mk (gA FI.out hg (fun e=>by have h1:=HR.out.1 g_i e.symm;have h2:=GIX.out;omega));have sz:=aA.mk (Nat.le_trans (Nat.le_trans XW.out (show wr.heap.size≤_ from by first|exact Nat.le_succ _|simp)) hg.size);obtain ⟨A1,cap1,hv1,_,_⟩:=Kd.bY ho;generalize List.length _=n1 at hv1;subst hv1;have hr:=aA.mk ho;have hbb:=aA.mk hb;clear ho hb hg hat BX B0 FS FI HR HB;have c6:=(aC b0.out 6).trans rfl;have f6:=aG b0.out 6)
   go_wp2
   go_roundw
   case rel=>exact ⟨j+1,_,by omega,by go_num,⟨by simpa using sz.out⟩,⟨(bE b0.out 6 _).trans rfl⟩,⟨bB (p:=⟨g_x,6,none⟩) c0.out (Nat.ne_of_lt G_x.out) _⟩,⟨bB (p:=⟨g_x,6,none⟩) s0.out (aK s0.out b0.out (by decide)) _⟩,⟨bB (p:=⟨g_x,6,none⟩) i0.out (aK i0.out b0.out (by decide)) _⟩,⟨by rw [M3];exact Kd.tE hr.out b0.out (by decide) 6 _⟩,⟨bM (j:=6) hbb.out (Nat.le_of_lt G_x.out)⟩⟩
   case measure=>simp [intOf];omega
  ·have ej:j=n:=by omega
   subst ej
   have hT:decide ((j:Int)<(j:Int))=false:=decide_eq_false (by omega)
   obtain ⟨AR,cR,hv1,_,_⟩:=Kd.bY HR.out
   rw [cB] at hv1
   subst hv1
   go_wp2_with (first|(go_at_call 163;refine (UJ _).mono ?_;rintro e w5 ⟨rfl,rfl⟩)|(go_at_call 159;refine (HA.out _ _ HL.out HB.out).mono ?_;rintro e w6 ⟨A,c,rfl,hR,hb⟩;have HV:=aA.mk (Kd.cT hR HB.out.size);have m0:=aA.mk (aE B0.out hb);have m_x:=aA.mk (aE BX.out hb);have m_s:=aA.mk (aE FS.out hb);have m_i:=aA.mk (aE FI.out hb);have m_r:=aA.mk (Kd.fB (Kd.eD HR.out (fun k _ hk=>hb.block k hk)) (ok':=fun _=>True) (fun _ _=>trivial));have m_HB:=aA.mk (bA HB.out hb);clear hb hR B0 BX FS FI HR HB HA;obtain ⟨d0,f0,d1,f1,d2,f2,d3,f3,d4,f4,d5,f5,d6,f6⟩:=fP m_x.out;obtain ⟨p0,q0,p1,q1,p2,q2,p3,q3,p4,q4,p5,q5,p6,q6⟩:=fP m0.out;have ne0:w.heap.size≠g_x:=Nat.ne_of_lt G_x.out;have ne1:g_x≠w.heap.size:=fun e=>ne0 e.symm))
   clear d0 f0 p0 q0 d1 f1 p1 q1 d2 f2 p2 q2 d3 f3 p3 q3 d4 f4 p4 q4 d5 f5 p5 q5 d6 f6 p6 q6
   obtain ⟨WF,hWF,h1,h2,h3⟩:=OU (szs:= [1,(q:Int)]) (xs:=List.replicate k 0) (r7:=nN j) (AR:=AR) (cR:=cR) (m:=0) (lo:=lo) (un:=un) m0.out m_x.out G_x.out m_HB.out m_s.out (by simpa [bL] using m_i.out) (by rw [cB];exact m_r.out) (Nat.le_of_lt G_s.out) (Nat.le_of_lt G_i.out) HV.out (by simp) (by have:=HKN.out;simp;omega) (by rw [cB];omega)
   simp only [List.length_replicate,cB] at hWF h2 h3
   change bodyPost _ _ _ _ _ (hU (gC w6 g_x _ _ _) w.heap.size _ _ _ _ _ _ _)
   have hWF2:WF=hU (gC w6 g_x (.slice A l.length c) (.int .i64 lo) (.int .i64 un)) w.heap.size (.slice A l.length c) (.int .i64 lo) (.int .i64 un) (.slice (some ⟨g_s,0,none⟩) 2 2) (.slice (some ⟨g_i,0,none⟩) k k) (.int .i64 0) (.slice AR j cR):=hWF
   rw [← hWF2]
   clear hWF hWF2
   obtain ⟨r0,r1,r2,r3,r4,r5,r6⟩:=gJ h2
   exact bodyPost_ret (v:= .tuple #[.agg #[.slice A l.length c,.int .i64 lo,.int .i64 un,.slice (some ⟨g_s,0,none⟩) 2 2,.slice (some ⟨g_i,0,none⟩) k k,.int .i64 0,.slice AR j cR],.int .i64 0]) (by simp [results,Tryz.results108,go_sem, *]) rfl ⟨_,rfl,h1,h3⟩
theorem sB (l:List dA) (lo un:Int) (ha:dZ kS l lo un) (n s:Nat) (w:World) (hl:dO w) (n1:1≤n) (n64:n≤64):
  Calls Tryz.prog 105 #[.int .i64 (n:Int),.int .u32 (s:Int)] w fun e w'=>∃ v,e= .returned (.tuple #[v,.int .i64 0])∧Below w.heap.size w w'∧cQ w.heap.size w' v l lo un [1,1] [(s:Int),(s:Int)] 0 (List.replicate n 0):=by
 have HA:=aA.mk ha
 have HL:=aA.mk hl
 have e0:decide ((n:Int)<1)=false:=decide_eq_false (by omega)
 have e1:decide (64<(n:Int))=false:=decide_eq_false (by omega)
 have hmk:=fun W:World=>dN (P:=Tryz.prog) 33 22 (.int .u32 0) 4 Tryz.underlying33 (by kernel_rfl) rfl (by decide) n (by omega) W
 clear ha hl n1
 go_enter Tryz.func105,Tryz.ntmps105
 go_wp2_with fail
 have E:=aA.mk (show Env _ w cA _ from (((Env.mk (W:=w.alloc (.cells cA 114)) (os:= []) (bF w _) (aD (Below.refl w.heap.size w) _) (by intro p hp;cases hp)).alloc (.cells #[.int .i64 1,.int .i64 1] 3)).alloc (.cells #[.int .u32 (s:Int),.int .u32 (s:Int)] 22)).alloc (.cells (bL n (.int .u32 0)) 22))
 have E2:=aA.mk (E.out.alloc (.cells #[.slice none 0 0,.int .i64 0,.int .i64 0,.slice (some ⟨w.heap.size+1,0,none⟩) 2 2,.slice (some ⟨w.heap.size+1+1,0,none⟩) 2 2,.int .i64 0,.slice (some ⟨w.heap.size+1+1+1,0,none⟩) n n] 114))
 have F_x:=aA.mk (E2.out.at_ _ (List.mem_cons_self)).1
 have G_x:=aA.mk (E2.out.at_ _ (List.mem_cons_self)).2
 have F_r:=aA.mk (E2.out.at_ _ (List.mem_cons_of_mem _ List.mem_cons_self)).1
 have G_r:=aA.mk (E2.out.at_ _ (List.mem_cons_of_mem _ List.mem_cons_self)).2
 have F_i:=aA.mk (E2.out.at_ _ (List.mem_cons_of_mem _ (List.mem_cons_of_mem _ List.mem_cons_self))).1
 have G_i:=aA.mk (E2.out.at_ _ (List.mem_cons_of_mem _ (List.mem_cons_of_mem _ List.mem_cons_self))).2
 have F_s:=aA.mk (E2.out.at_ _ (List.mem_cons_of_mem _ (List.mem_cons_of_mem _ (List.mem_cons_of_mem _ List.mem_cons_self)))).1
 have G_s:=aA.mk (E2.out.at_ _ (List.mem_cons_of_mem _ (List.mem_cons_of_mem _ (List.mem_cons_of_mem _ List.mem_cons_self)))).2
 have B0:=aA.mk E2.out.b0
 have HB:=aA.mk E2.out.hb
 clear E E2
 simp only [World.size_alloc,cA] at F_x G_x F_r G_r F_i G_i F_s G_s B0 HB
 clear hmk
 generalize ((((w.alloc (.cells #[.slice none 0 0,.int .i64 0,.int .i64 0,.slice none 0 0,.slice none 0 0,.int .i64 0,.slice none 0 0] 114)).alloc (.cells #[.int .i64 1,.int .i64 1] 3)).alloc (.cells #[.int .u32 (s:Int),.int .u32 (s:Int)] 22)).alloc (.cells (bL n (.int .u32 0)) 22)).alloc (.cells #[.slice none 0 0,.int .i64 0,.int .i64 0,.slice (some ⟨w.heap.size+1,0,none⟩) 2 2,.slice (some ⟨w.heap.size+1+1,0,none⟩) 2 2,.int .i64 0,.slice (some ⟨w.heap.size+1+1+1,0,none⟩) n n] 114)=wh at F_x F_r F_i F_s B0 HB ⊢
 generalize w.heap.size+1+1+1+1=g_x at F_x G_x ⊢
 generalize w.heap.size+1+1+1=g_r at F_x F_r G_r ⊢
 generalize w.heap.size+1+1=g_i at F_x F_i G_i ⊢
 generalize w.heap.size+1=g_s at F_x F_s G_s ⊢
 refine (GY _).mono ?_
 rintro e w5 ⟨rfl,rfl⟩
 go_wp2_with (go_at_call 159;refine (HA.out _ _ HL.out HB.out).mono ?_;rintro e w6 ⟨A,c,rfl,hR,hb⟩;have HV:=aA.mk (Kd.cT hR HB.out.size);have m0:=aA.mk (aE B0.out hb);have m_x:=aA.mk (aE F_x.out hb);have m_s:=aA.mk (aE F_s.out hb);have m_i:=aA.mk (aE F_i.out hb);have m_r:=aA.mk (aE F_r.out hb);have m_HB:=aA.mk (bA HB.out hb);clear hb hR B0 F_x F_s F_i F_r HB HA;obtain ⟨d0,f0,d1,f1,d2,f2,d3,f3,d4,f4,d5,f5,d6,f6⟩:=fP m_x.out;obtain ⟨p0,q0,p1,q1,p2,q2,p3,q3,p4,q4,p5,q5,p6,q6⟩:=fP m0.out;have ne0:w.heap.size≠g_x:=Nat.ne_of_lt G_x.out;have ne1:g_x≠w.heap.size:=fun e=>ne0 e.symm)
 clear d0 f0 p0 q0 d1 f1 p1 q1 d2 f2 p2 q2 d3 f3 p3 q3 d4 f4 p4 q4 d5 f5 p5 q5 d6 f6 p6 q6
 obtain ⟨WF,hWF,h1,h2,h3⟩:=kX (szs:= [1,1]) (xs:= [(s:Int),(s:Int)]) (r7:=List.replicate n 0) (m:=0) (lo:=lo) (un:=un) m0.out m_x.out G_x.out m_HB.out m_s.out m_i.out (by simpa [bL] using m_r.out) (Nat.le_of_lt G_s.out) (Nat.le_of_lt G_i.out) (Nat.le_of_lt G_r.out) HV.out (by simp) (by simp) (by simp;omega)
 simp only [List.length_replicate] at hWF h2 h3
 change bodyPost _ _ _ _ _ (hU (gC w6 g_x _ _ _) w.heap.size _ _ _ _ _ _ _)
 have hWF2:WF=hU (gC w6 g_x (.slice A l.length c) (.int .i64 lo) (.int .i64 un)) w.heap.size (.slice A l.length c) (.int .i64 lo) (.int .i64 un) (.slice (some ⟨g_s,0,none⟩) 2 2) (.slice (some ⟨g_i,0,none⟩) 2 2) (.int .i64 0) (.slice (some ⟨g_r,0,none⟩) n n):=hWF
 rw [← hWF2]
 clear hWF hWF2
 obtain ⟨r0,r1,r2,r3,r4,r5,r6⟩:=gJ h2
 exact bodyPost_ret (v:= .tuple #[.agg #[.slice A l.length c,.int .i64 lo,.int .i64 un,.slice (some ⟨g_s,0,none⟩) 2 2,.slice (some ⟨g_i,0,none⟩) 2 2,.int .i64 0,.slice (some ⟨g_r,0,none⟩) n n],.int .i64 0]) (by simp [results,Tryz.results105,go_sem, *]) rfl ⟨_,rfl,h1,h3⟩
theorem zH (l:List dA) (lo un:Int) (ha:dZ lJ l lo un) (n:Nat) (w:World) (hl:dO w) (n1:1≤n) (n64:n≤64):
  Calls Tryz.prog 109 #[.int .i64 (n:Int)] w fun e w'=>∃ v,e= .returned (.tuple #[v,.int .i64 0])∧Below w.heap.size w w'∧cQ w.heap.size w' v l lo un [1,n,n] (List.replicate (1+2*n) 0) 0 (List.replicate n 0):=by
 have HA:=aA.mk ha
 have HL:=aA.mk hl
 have e0:decide ((n:Int)<1)=false:=decide_eq_false (by omega)
 have e1:decide (64<(n:Int))=false:=decide_eq_false (by omega)
 obtain ⟨k,hk⟩:∃ k:Nat,k=1+2*n:=⟨_,rfl⟩
 rw [← hk]
 have hw1:IntKind.i64.wrap (2*(n:Int))=2*(n:Int):=(cD _ (2*n) (by omega) (by omega)).trans (by omega)
 have hw2:IntKind.i64.wrap (1+2*(n:Int))=(k:Int):=cD _ k (by omega) (by omega)
 have MI:=aA.mk (fun W:World=>dN (P:=Tryz.prog) 33 22 (.int .u32 0) 4 Tryz.underlying33 (by kernel_rfl) rfl (by decide) k (by omega) W)
 have MR:=aA.mk (fun W:World=>dN (P:=Tryz.prog) 33 22 (.int .u32 0) 4 Tryz.underlying33 (by kernel_rfl) rfl (by decide) n (by omega) W)
 have WD:=Abs.wide
 clear ha hl
 have HK:=aA.mk hk
 clear n1 hk
 go_enter Tryz.func109,Tryz.ntmps109
 go_wp2_with fail
 have HJ:=aA.mk (show DJ w (.cells cA 114) (w.alloc (.cells cA 114)).drew from ⟨bG (aD (Below.refl w.heap.size w) _),bF w _⟩)

 obtain ⟨ds,hds⟩:∃ ds:List H8,ds= [(fun _=> .int .i64 (n:Int),[]),(fun _=> .int .i64 (n:Int),[]),(fun gs=> .slice (some ⟨(gs.getD 0 0),0,none⟩) 3 3,[.cells #[.int .i64 1,.int .i64 (n:Int),.int .i64 (n:Int)] 3 (0,0)]),(fun _=> .int .i64 (n:Int),[]),(fun _=> .int .i64 (2*(n:Int)),[]),(fun _=> .int .i64 (k:Int),[]),(fun gs=> .slice (some ⟨(gs.getD 0 0),0,none⟩) k k,[.cells (bL k (.int .u32 0)) 22 (0,0)]),(fun _=> .int .i64 (n:Int),[]),(fun gs=> .slice (some ⟨(gs.getD 0 0),0,none⟩) n n,[.cells (bL n (.int .u32 0)) 22 (0,0)]),(fun gs=> .agg #[.slice none 0 0,.int .i64 0,.int .i64 0,.slice (some ⟨(gs.getD 0 0),0,none⟩) 3 3,.slice (some ⟨(gs.getD 1 0),0,none⟩) k k,.int .i64 0,.slice (some ⟨(gs.getD 2 0),0,none⟩) n n],[.cells #[.int .i64 1,.int .i64 (n:Int),.int .i64 (n:Int)] 3 (0,0),.cells (bL k (.int .u32 0)) 22 (0,0),.cells (bL n (.int .u32 0)) 22 (0,0)]),(fun gs=> .pointer (some ⟨(gs.getD 0 0),0,none⟩),[.cells cA 114 (0,0)])]:=⟨_,rfl⟩
 refine hZ (w:=w) (by kernel_rfl) (k:=11) rfl (.cells cA 114 (0,0)) ds (by kernel_rfl) (by kernel_rfl) rfl rfl HJ.out ?ob ?cont
 case ob=>
  refine pK (fun QQ=>?_)
  rename_i aa1
  clear aa1 HA HL HJ e0 e1 HK WD
  refine aW ?_ ?_
  ·refine bZ rfl (by rw [hds];rfl) (fun a' w' hs=>?_)
   have e0:=hs.own 0 (by kernel_rfl) (v:= .int .i64 (n:Int)) rfl
   clear hs hds
   go_simp
  refine aW ?_ ?_
  ·refine bZ rfl (by rw [hds];rfl) (fun a' w' hs=>?_)
   have e0:=hs.own 0 (by kernel_rfl) (v:= .int .i64 (n:Int)) rfl
   clear hs hds
   go_simp
  refine aW ?_ ?_
  ·refine cZ rfl (by rw [hds];rfl) (fun a' w' hs=>?_)
   have e12:=hs.val 0 12 (by kernel_rfl) (by kernel_rfl) (v:= .int .i64 (n:Int)) (by rw [hds];rfl)
   have e13:=hs.val 1 13 (by kernel_rfl) (by kernel_rfl) (v:= .int .i64 (n:Int)) (by rw [hds];rfl)
   clear hs hds
   go_simp
  refine aW ?_ ?_
  ·refine bZ rfl (by rw [hds];rfl) (fun a' w' hs=>?_)
   have e0:=hs.own 0 (by kernel_rfl) (v:= .int .i64 (n:Int)) rfl
   clear hs hds
   go_simp
  refine aW ?_ ?_
  ·refine bZ rfl (by rw [hds];rfl) (fun a' w' hs=>?_)
   have e15:=hs.val 3 15 (by kernel_rfl) (by kernel_rfl) (v:= .int .i64 (n:Int)) (by rw [hds];rfl)
   clear hs hds
   go_simp
  refine aW ?_ ?_
  ·refine bZ rfl (by rw [hds];rfl) (fun a' w' hs=>?_)
   have e16:=hs.val 4 16 (by kernel_rfl) (by kernel_rfl) (v:= .int .i64 (2*(n:Int))) (by rw [hds];rfl)
   clear hs hds
   go_simp
  refine aW ?_ ?_
  ·refine cZ rfl (by rw [hds];rfl) (fun a' w' hs=>?_)
   have e17:=hs.val 5 17 (by kernel_rfl) (by kernel_rfl) (v:= .int .i64 (k:Int)) (by rw [hds];rfl)
   clear hs hds
   have hmk:=MI.out w';go_simp
  refine aW ?_ ?_
  ·refine bZ rfl (by rw [hds];rfl) (fun a' w' hs=>?_)
   have e0:=hs.own 0 (by kernel_rfl) (v:= .int .i64 (n:Int)) rfl
   clear hs hds
   go_simp
  refine aW ?_ ?_
  ·refine cZ rfl (by rw [hds];rfl) (fun a' w' hs=>?_)
   have e19:=hs.val 7 19 (by kernel_rfl) (by kernel_rfl) (v:= .int .i64 (n:Int)) (by rw [hds];rfl)
   clear hs hds
   have hmk:=MR.out w';go_simp
  refine aW ?_ ?_
  ·refine sF rfl (by rw [hds];rfl) (fun a' w' hs=>?_)
   obtain ⟨g14,e14,b14⟩:=hs.D5 2 14 (by kernel_rfl) (by kernel_rfl) (by rw [hds];rfl)
   obtain ⟨g18,e18,b18⟩:=hs.D5 6 18 (by kernel_rfl) (by kernel_rfl) (by rw [hds];rfl)
   obtain ⟨g20,e20,b20⟩:=hs.D5 8 20 (by kernel_rfl) (by kernel_rfl) (by rw [hds];rfl)
   clear hs hds
   obtain ⟨c14,rfl,h14,l14⟩:=b14.one
   obtain ⟨c18,rfl,h18,l18⟩:=b18.one
   obtain ⟨c20,rfl,h20,l20⟩:=b20.one
   refine ⟨[c14,c18,c20],?_,lF.mk3 h14 l14 h18 l18 h20 l20⟩
   dsimp only [List.getD_cons_zero,List.getD_cons_succ] at*
   go_simp
  refine aW ?_ o6
  ·refine cZ rfl (by rw [hds];rfl) (fun a' w' hs=>?_)
   clear hs hds
   kernel_rfl
 intro vs wf hJ hv
 generalize hA:iY _ _ 0 vs=A
 have q0:=hv.val 0 (.int .i64 (n:Int)) (by decide) (by rw [hds];rfl)
 have q1:=hv.val 1 (.int .i64 (n:Int)) (by decide) (by rw [hds];rfl)
 obtain ⟨x2,q2,F2,G2⟩:=hv.one 2 (fun gs=> .slice (some ⟨(gs.getD 0 0),0,none⟩) 3 3) (.cells #[.int .i64 1,.int .i64 (n:Int),.int .i64 (n:Int)] 3 (0,0)) (by decide) (by rw [hds];rfl)
 have q3:=hv.val 3 (.int .i64 (n:Int)) (by decide) (by rw [hds];rfl)
 have q4:=hv.val 4 (.int .i64 (2*(n:Int))) (by decide) (by rw [hds];rfl)
 have q5:=hv.val 5 (.int .i64 (k:Int)) (by decide) (by rw [hds];rfl)
 obtain ⟨x6,q6,F6,G6⟩:=hv.one 6 (fun gs=> .slice (some ⟨(gs.getD 0 0),0,none⟩) k k) (.cells (bL k (.int .u32 0)) 22 (0,0)) (by decide) (by rw [hds];rfl)
 have q7:=hv.val 7 (.int .i64 (n:Int)) (by decide) (by rw [hds];rfl)
 obtain ⟨x8,q8,F8,G8⟩:=hv.one 8 (fun gs=> .slice (some ⟨(gs.getD 0 0),0,none⟩) n n) (.cells (bL n (.int .u32 0)) 22 (0,0)) (by decide) (by rw [hds];rfl)
 obtain ⟨g_s,g_i,g_r,q9,⟨F_s,l_s⟩,⟨F_i,l_i⟩,F_r,l_r⟩:=hv.three 9 (fun gs=> .agg #[.slice none 0 0,.int .i64 0,.int .i64 0,.slice (some ⟨(gs.getD 0 0),0,none⟩) 3 3,.slice (some ⟨(gs.getD 1 0),0,none⟩) k k,.int .i64 0,.slice (some ⟨(gs.getD 2 0),0,none⟩) n n]) (.cells #[.int .i64 1,.int .i64 (n:Int),.int .i64 (n:Int)] 3 (0,0)) (.cells (bL k (.int .u32 0)) 22 (0,0)) (.cells (bL n (.int .u32 0)) 22 (0,0)) (by decide) (by rw [hds];rfl)
 obtain ⟨g_x,q10,F10,G10⟩:=hv.one 10 (fun gs=> .pointer (some ⟨(gs.getD 0 0),0,none⟩)) (.cells cA 114 (0,0)) (by decide) (by rw [hds];rfl)
 clear hv hds
 simp only [List.toList_toArray,List.take_succ_cons,List.take_zero,iY,Act.put,List.setIfInBounds_toArray,List.set_cons_zero,List.set_cons_succ,Nat.reduceAdd,List.getD_cons_zero,List.getD_cons_succ,q0,q1,q2,q3,q4,q5,q6,q7,q8,q9,q10] at hA
 subst hA
 clear q0 q1 q2 q3 q4 q5 q6 q7 q8 q9 q10 F2 G2 F6 G6 F8 G8
 refine wp_store_row 114 (.tmp 4) (.tmp 21) rfl g_x #[.slice none 0 0,.int .i64 0,.int .i64 0,.slice (some ⟨g_s,0,none⟩) 3 3,.slice (some ⟨g_i,0,none⟩) k k,.int .i64 0,.slice (some ⟨g_r,0,none⟩) n n] rfl rfl 114 _ F10 (by kernel_rfl) rfl (by kernel_rfl) ?_
 have n_s:=aA.mk ((setRow_other wf g_x _ #[.slice none 0 0,.int .i64 0,.int .i64 0,.slice (some ⟨g_s,0,none⟩) 3 3,.slice (some ⟨g_i,0,none⟩) k k,.int .i64 0,.slice (some ⟨g_r,0,none⟩) n n] (aK F_s F10 (by decide))).trans F_s)
 have n_i:=aA.mk ((setRow_other wf g_x _ #[.slice none 0 0,.int .i64 0,.int .i64 0,.slice (some ⟨g_s,0,none⟩) 3 3,.slice (some ⟨g_i,0,none⟩) k k,.int .i64 0,.slice (some ⟨g_r,0,none⟩) n n] (aK F_i F10 (by decide))).trans F_i)
 have n_r:=aA.mk ((setRow_other wf g_x _ #[.slice none 0 0,.int .i64 0,.int .i64 0,.slice (some ⟨g_s,0,none⟩) 3 3,.slice (some ⟨g_i,0,none⟩) k k,.int .i64 0,.slice (some ⟨g_r,0,none⟩) n n] (aK F_r F10 (by decide))).trans F_r)
 have n_B0:=aA.mk (show (wf.setRow g_x #[.slice none 0 0,.int .i64 0,.int .i64 0,.slice (some ⟨g_s,0,none⟩) 3 3,.slice (some ⟨g_i,0,none⟩) k k,.int .i64 0,.slice (some ⟨g_r,0,none⟩) n n]).heap[w.heap.size]?=some (.cells #[.slice none 0 0,.int .i64 0,.int .i64 0,.slice none 0 0,.slice none 0 0,.int .i64 0,.slice none 0 0] 114 (0,0)) from (setRow_other wf g_x _ #[.slice none 0 0,.int .i64 0,.int .i64 0,.slice (some ⟨g_s,0,none⟩) 3 3,.slice (some ⟨g_i,0,none⟩) k k,.int .i64 0,.slice (some ⟨g_r,0,none⟩) n n] (Nat.ne_of_lt G10)).trans hJ.at_)
 have n_x:=aA.mk (setRow_heap wf g_x _ #[.slice none 0 0,.int .i64 0,.int .i64 0,.slice (some ⟨g_s,0,none⟩) 3 3,.slice (some ⟨g_i,0,none⟩) k k,.int .i64 0,.slice (some ⟨g_r,0,none⟩) n n] 114 (0,0) F10)
 have n_HB:=aA.mk (below_setRow hJ.below (Nat.le_of_lt G10) #[.slice none 0 0,.int .i64 0,.int .i64 0,.slice (some ⟨g_s,0,none⟩) 3 3,.slice (some ⟨g_i,0,none⟩) k k,.int .i64 0,.slice (some ⟨g_r,0,none⟩) n n])
 have G_s:=aA.mk l_s
 have G_i:=aA.mk l_i
 have G_r:=aA.mk l_r
 have G_x:=aA.mk G10
 clear F_s F_i F_r F10 hJ l_s l_i l_r G10
 generalize wf.setRow g_x #[.slice none 0 0,.int .i64 0,.int .i64 0,.slice (some ⟨g_s,0,none⟩) 3 3,.slice (some ⟨g_i,0,none⟩) k k,.int .i64 0,.slice (some ⟨g_r,0,none⟩) n n]=wg at n_B0 n_x n_s n_i n_r n_HB ⊢
 change Exit.then _ _ _ _ _
 go_wp2_with (first|(go_at_call 164;refine (UB _).mono ?_;rintro e w5 ⟨rfl,rfl⟩)|(go_at_call 159;refine (HA.out _ _ HL.out n_HB.out).mono ?_;rintro e w6 ⟨A,c,rfl,hR,hb⟩;have HV:=aA.mk (Kd.cT hR n_HB.out.size);have m0:=aA.mk (aE n_B0.out hb);have m_x:=aA.mk (aE n_x.out hb);have m_s:=aA.mk (aE n_s.out hb);have m_i:=aA.mk (aE n_i.out hb);have m_r:=aA.mk (aE n_r.out hb);have m_HB:=aA.mk (bA n_HB.out hb);clear hb hR n_B0 n_x n_s n_i n_r n_HB HA;obtain ⟨d0,f0,d1,f1,d2,f2,d3,f3,d4,f4,d5,f5,d6,f6⟩:=fP m_x.out;obtain ⟨p0,q0,p1,q1,p2,q2,p3,q3,p4,q4,p5,q5,p6,q6⟩:=fP m0.out;have ne0:w.heap.size≠g_x:=Nat.ne_of_lt G_x.out;have ne1:g_x≠w.heap.size:=fun e=>ne0 e.symm))
 clear d0 f0 p0 q0 d1 f1 p1 q1 d2 f2 p2 q2 d3 f3 p3 q3 d4 f4 p4 q4 d5 f5 p5 q5 d6 f6 p6 q6
 obtain ⟨WF,hWF,h1,h2,h3⟩:=kX (szs:= [1,n,n]) (xs:=List.replicate k 0) (r7:=List.replicate n 0) (m:=0) (lo:=lo) (un:=un) m0.out m_x.out G_x.out m_HB.out m_s.out (by simpa [bL] using m_i.out) (by simpa [bL] using m_r.out) (Nat.le_of_lt G_s.out) (Nat.le_of_lt G_i.out) (Nat.le_of_lt G_r.out) HV.out (by simp) (by have:=HK.out;simp;omega) (by simp;omega)
 simp only [List.length_replicate,List.length_set] at hWF h2 h3
 change bodyPost _ _ _ _ _ (hU (gC w6 g_x _ _ _) w.heap.size _ _ _ _ _ _ _)
 have hWF2:WF=hU (gC w6 g_x (.slice A l.length c) (.int .i64 lo) (.int .i64 un)) w.heap.size (.slice A l.length c) (.int .i64 lo) (.int .i64 un) (.slice (some ⟨g_s,0,none⟩) 3 3) (.slice (some ⟨g_i,0,none⟩) k k) (.int .i64 0) (.slice (some ⟨g_r,0,none⟩) n n):=hWF
 rw [← hWF2]
 clear hWF hWF2
 obtain ⟨r0,r1,r2,r3,r4,r5,r6⟩:=gJ h2
 exact bodyPost_ret (v:= .tuple #[.agg #[.slice A l.length c,.int .i64 lo,.int .i64 un,.slice (some ⟨g_s,0,none⟩) 3 3,.slice (some ⟨g_i,0,none⟩) k k,.int .i64 0,.slice (some ⟨g_r,0,none⟩) n n],.int .i64 0]) (by simp [results,Tryz.results109,go_sem, *]) rfl ⟨_,rfl,h1,h3⟩
theorem yX (l:List dA) (lo un:Int) (ha:dZ mU l lo un) (n:Nat) (w:World) (hl:dO w) (n1:1≤n) (n64:n≤64):
  Calls Tryz.prog 110 #[.int .i64 (n:Int)] w fun e w'=>∃ v,e= .returned (.tuple #[v,.int .i64 0])∧Below w.heap.size w w'∧cQ w.heap.size w' v l lo un [1,1,n,n] (List.replicate (2+2*n) 0) 0 (List.replicate n 0):=by
 have HA:=aA.mk ha
 have HL:=aA.mk hl
 have e0:decide ((n:Int)<1)=false:=decide_eq_false (by omega)
 have e1:decide (64<(n:Int))=false:=decide_eq_false (by omega)
 obtain ⟨k,hk⟩:∃ k:Nat,k=2+2*n:=⟨_,rfl⟩
 rw [← hk]
 have hw1:IntKind.i64.wrap (2*(n:Int))=2*(n:Int):=(cD _ (2*n) (by omega) (by omega)).trans (by omega)
 have hw2:IntKind.i64.wrap (2+2*(n:Int))=(k:Int):=cD _ k (by omega) (by omega)
 have MI:=aA.mk (fun W:World=>dN (P:=Tryz.prog) 33 22 (.int .u32 0) 4 Tryz.underlying33 (by kernel_rfl) rfl (by decide) k (by omega) W)
 have MR:=aA.mk (fun W:World=>dN (P:=Tryz.prog) 33 22 (.int .u32 0) 4 Tryz.underlying33 (by kernel_rfl) rfl (by decide) n (by omega) W)
 have WD:=Abs.wide
 clear ha hl
 have HK:=aA.mk hk
 clear n1 hk
 go_enter Tryz.func110,Tryz.ntmps110
 go_wp2_with fail
 have HJ:=aA.mk (show DJ w (.cells cA 114) (w.alloc (.cells cA 114)).drew from ⟨bG (aD (Below.refl w.heap.size w) _),bF w _⟩)

 obtain ⟨ds,hds⟩:∃ ds:List H8,ds= [(fun _=> .int .i64 (n:Int),[]),(fun _=> .int .i64 (n:Int),[]),(fun gs=> .slice (some ⟨(gs.getD 0 0),0,none⟩) 4 4,[.cells #[.int .i64 1,.int .i64 1,.int .i64 (n:Int),.int .i64 (n:Int)] 3 (0,0)]),(fun _=> .int .i64 (n:Int),[]),(fun _=> .int .i64 (2*(n:Int)),[]),(fun _=> .int .i64 (k:Int),[]),(fun gs=> .slice (some ⟨(gs.getD 0 0),0,none⟩) k k,[.cells (bL k (.int .u32 0)) 22 (0,0)]),(fun _=> .int .i64 (n:Int),[]),(fun gs=> .slice (some ⟨(gs.getD 0 0),0,none⟩) n n,[.cells (bL n (.int .u32 0)) 22 (0,0)]),(fun gs=> .agg #[.slice none 0 0,.int .i64 0,.int .i64 0,.slice (some ⟨(gs.getD 0 0),0,none⟩) 4 4,.slice (some ⟨(gs.getD 1 0),0,none⟩) k k,.int .i64 0,.slice (some ⟨(gs.getD 2 0),0,none⟩) n n],[.cells #[.int .i64 1,.int .i64 1,.int .i64 (n:Int),.int .i64 (n:Int)] 3 (0,0),.cells (bL k (.int .u32 0)) 22 (0,0),.cells (bL n (.int .u32 0)) 22 (0,0)]),(fun gs=> .pointer (some ⟨(gs.getD 0 0),0,none⟩),[.cells cA 114 (0,0)])]:=⟨_,rfl⟩
 refine hZ (w:=w) (by kernel_rfl) (k:=11) rfl (.cells cA 114 (0,0)) ds (by kernel_rfl) (by kernel_rfl) rfl rfl HJ.out ?ob ?cont
 case ob=>
  refine pK (fun QQ=>?_)
  rename_i aa1
  clear aa1 HA HL HJ e0 e1 HK WD
  refine aW ?_ ?_
  ·refine bZ rfl (by rw [hds];rfl) (fun a' w' hs=>?_)
   have e0:=hs.own 0 (by kernel_rfl) (v:= .int .i64 (n:Int)) rfl
   clear hs hds
   go_simp
  refine aW ?_ ?_
  ·refine bZ rfl (by rw [hds];rfl) (fun a' w' hs=>?_)
   have e0:=hs.own 0 (by kernel_rfl) (v:= .int .i64 (n:Int)) rfl
   clear hs hds
   go_simp
  refine aW ?_ ?_
  ·refine cZ rfl (by rw [hds];rfl) (fun a' w' hs=>?_)
   have e12:=hs.val 0 12 (by kernel_rfl) (by kernel_rfl) (v:= .int .i64 (n:Int)) (by rw [hds];rfl)
   have e13:=hs.val 1 13 (by kernel_rfl) (by kernel_rfl) (v:= .int .i64 (n:Int)) (by rw [hds];rfl)
   clear hs hds
   go_simp
  refine aW ?_ ?_
  ·refine bZ rfl (by rw [hds];rfl) (fun a' w' hs=>?_)
   have e0:=hs.own 0 (by kernel_rfl) (v:= .int .i64 (n:Int)) rfl
   clear hs hds
   go_simp
  refine aW ?_ ?_
  ·refine bZ rfl (by rw [hds];rfl) (fun a' w' hs=>?_)
   have e15:=hs.val 3 15 (by kernel_rfl) (by kernel_rfl) (v:= .int .i64 (n:Int)) (by rw [hds];rfl)
   clear hs hds
   go_simp
  refine aW ?_ ?_
  ·refine bZ rfl (by rw [hds];rfl) (fun a' w' hs=>?_)
   have e16:=hs.val 4 16 (by kernel_rfl) (by kernel_rfl) (v:= .int .i64 (2*(n:Int))) (by rw [hds];rfl)
   clear hs hds
   go_simp
  refine aW ?_ ?_
  ·refine cZ rfl (by rw [hds];rfl) (fun a' w' hs=>?_)
   have e17:=hs.val 5 17 (by kernel_rfl) (by kernel_rfl) (v:= .int .i64 (k:Int)) (by rw [hds];rfl)
   clear hs hds
   have hmk:=MI.out w';go_simp
  refine aW ?_ ?_
  ·refine bZ rfl (by rw [hds];rfl) (fun a' w' hs=>?_)
   have e0:=hs.own 0 (by kernel_rfl) (v:= .int .i64 (n:Int)) rfl
   clear hs hds
   go_simp
  refine aW ?_ ?_
  ·refine cZ rfl (by rw [hds];rfl) (fun a' w' hs=>?_)
   have e19:=hs.val 7 19 (by kernel_rfl) (by kernel_rfl) (v:= .int .i64 (n:Int)) (by rw [hds];rfl)
   clear hs hds
   have hmk:=MR.out w';go_simp
  refine aW ?_ ?_
  ·refine sF rfl (by rw [hds];rfl) (fun a' w' hs=>?_)
   obtain ⟨g14,e14,b14⟩:=hs.D5 2 14 (by kernel_rfl) (by kernel_rfl) (by rw [hds];rfl)
   obtain ⟨g18,e18,b18⟩:=hs.D5 6 18 (by kernel_rfl) (by kernel_rfl) (by rw [hds];rfl)
   obtain ⟨g20,e20,b20⟩:=hs.D5 8 20 (by kernel_rfl) (by kernel_rfl) (by rw [hds];rfl)
   clear hs hds
   obtain ⟨c14,rfl,h14,l14⟩:=b14.one
   obtain ⟨c18,rfl,h18,l18⟩:=b18.one
   obtain ⟨c20,rfl,h20,l20⟩:=b20.one
   refine ⟨[c14,c18,c20],?_,lF.mk3 h14 l14 h18 l18 h20 l20⟩
   dsimp only [List.getD_cons_zero,List.getD_cons_succ] at*
   go_simp
  refine aW ?_ o6
  ·refine cZ rfl (by rw [hds];rfl) (fun a' w' hs=>?_)
   clear hs hds
   kernel_rfl
 intro vs wf hJ hv
 generalize hA:iY _ _ 0 vs=A
 have q0:=hv.val 0 (.int .i64 (n:Int)) (by decide) (by rw [hds];rfl)
 have q1:=hv.val 1 (.int .i64 (n:Int)) (by decide) (by rw [hds];rfl)
 obtain ⟨x2,q2,F2,G2⟩:=hv.one 2 (fun gs=> .slice (some ⟨(gs.getD 0 0),0,none⟩) 4 4) (.cells #[.int .i64 1,.int .i64 1,.int .i64 (n:Int),.int .i64 (n:Int)] 3 (0,0)) (by decide) (by rw [hds];rfl)
 have q3:=hv.val 3 (.int .i64 (n:Int)) (by decide) (by rw [hds];rfl)
 have q4:=hv.val 4 (.int .i64 (2*(n:Int))) (by decide) (by rw [hds];rfl)
 have q5:=hv.val 5 (.int .i64 (k:Int)) (by decide) (by rw [hds];rfl)
 obtain ⟨x6,q6,F6,G6⟩:=hv.one 6 (fun gs=> .slice (some ⟨(gs.getD 0 0),0,none⟩) k k) (.cells (bL k (.int .u32 0)) 22 (0,0)) (by decide) (by rw [hds];rfl)
 have q7:=hv.val 7 (.int .i64 (n:Int)) (by decide) (by rw [hds];rfl)
 obtain ⟨x8,q8,F8,G8⟩:=hv.one 8 (fun gs=> .slice (some ⟨(gs.getD 0 0),0,none⟩) n n) (.cells (bL n (.int .u32 0)) 22 (0,0)) (by decide) (by rw [hds];rfl)
 obtain ⟨g_s,g_i,g_r,q9,⟨F_s,l_s⟩,⟨F_i,l_i⟩,F_r,l_r⟩:=hv.three 9 (fun gs=> .agg #[.slice none 0 0,.int .i64 0,.int .i64 0,.slice (some ⟨(gs.getD 0 0),0,none⟩) 4 4,.slice (some ⟨(gs.getD 1 0),0,none⟩) k k,.int .i64 0,.slice (some ⟨(gs.getD 2 0),0,none⟩) n n]) (.cells #[.int .i64 1,.int .i64 1,.int .i64 (n:Int),.int .i64 (n:Int)] 3 (0,0)) (.cells (bL k (.int .u32 0)) 22 (0,0)) (.cells (bL n (.int .u32 0)) 22 (0,0)) (by decide) (by rw [hds];rfl)
 obtain ⟨g_x,q10,F10,G10⟩:=hv.one 10 (fun gs=> .pointer (some ⟨(gs.getD 0 0),0,none⟩)) (.cells cA 114 (0,0)) (by decide) (by rw [hds];rfl)
 clear hv hds
 simp only [List.toList_toArray,List.take_succ_cons,List.take_zero,iY,Act.put,List.setIfInBounds_toArray,List.set_cons_zero,List.set_cons_succ,Nat.reduceAdd,List.getD_cons_zero,List.getD_cons_succ,q0,q1,q2,q3,q4,q5,q6,q7,q8,q9,q10] at hA
 subst hA
 clear q0 q1 q2 q3 q4 q5 q6 q7 q8 q9 q10 F2 G2 F6 G6 F8 G8
 refine wp_store_row 114 (.tmp 4) (.tmp 21) rfl g_x #[.slice none 0 0,.int .i64 0,.int .i64 0,.slice (some ⟨g_s,0,none⟩) 4 4,.slice (some ⟨g_i,0,none⟩) k k,.int .i64 0,.slice (some ⟨g_r,0,none⟩) n n] rfl rfl 114 _ F10 (by kernel_rfl) rfl (by kernel_rfl) ?_
 have n_s:=aA.mk ((setRow_other wf g_x _ #[.slice none 0 0,.int .i64 0,.int .i64 0,.slice (some ⟨g_s,0,none⟩) 4 4,.slice (some ⟨g_i,0,none⟩) k k,.int .i64 0,.slice (some ⟨g_r,0,none⟩) n n] (aK F_s F10 (by decide))).trans F_s)
 have n_i:=aA.mk ((setRow_other wf g_x _ #[.slice none 0 0,.int .i64 0,.int .i64 0,.slice (some ⟨g_s,0,none⟩) 4 4,.slice (some ⟨g_i,0,none⟩) k k,.int .i64 0,.slice (some ⟨g_r,0,none⟩) n n] (aK F_i F10 (by decide))).trans F_i)
 have n_r:=aA.mk ((setRow_other wf g_x _ #[.slice none 0 0,.int .i64 0,.int .i64 0,.slice (some ⟨g_s,0,none⟩) 4 4,.slice (some ⟨g_i,0,none⟩) k k,.int .i64 0,.slice (some ⟨g_r,0,none⟩) n n] (aK F_r F10 (by decide))).trans F_r)
 have n_B0:=aA.mk (show (wf.setRow g_x #[.slice none 0 0,.int .i64 0,.int .i64 0,.slice (some ⟨g_s,0,none⟩) 4 4,.slice (some ⟨g_i,0,none⟩) k k,.int .i64 0,.slice (some ⟨g_r,0,none⟩) n n]).heap[w.heap.size]?=some (.cells #[.slice none 0 0,.int .i64 0,.int .i64 0,.slice none 0 0,.slice none 0 0,.int .i64 0,.slice none 0 0] 114 (0,0)) from (setRow_other wf g_x _ #[.slice none 0 0,.int .i64 0,.int .i64 0,.slice (some ⟨g_s,0,none⟩) 4 4,.slice (some ⟨g_i,0,none⟩) k k,.int .i64 0,.slice (some ⟨g_r,0,none⟩) n n] (Nat.ne_of_lt G10)).trans hJ.at_)
 have n_x:=aA.mk (setRow_heap wf g_x _ #[.slice none 0 0,.int .i64 0,.int .i64 0,.slice (some ⟨g_s,0,none⟩) 4 4,.slice (some ⟨g_i,0,none⟩) k k,.int .i64 0,.slice (some ⟨g_r,0,none⟩) n n] 114 (0,0) F10)
 have n_HB:=aA.mk (below_setRow hJ.below (Nat.le_of_lt G10) #[.slice none 0 0,.int .i64 0,.int .i64 0,.slice (some ⟨g_s,0,none⟩) 4 4,.slice (some ⟨g_i,0,none⟩) k k,.int .i64 0,.slice (some ⟨g_r,0,none⟩) n n])
 have G_s:=aA.mk l_s
 have G_i:=aA.mk l_i
 have G_r:=aA.mk l_r
 have G_x:=aA.mk G10
 clear F_s F_i F_r F10 hJ l_s l_i l_r G10
 generalize wf.setRow g_x #[.slice none 0 0,.int .i64 0,.int .i64 0,.slice (some ⟨g_s,0,none⟩) 4 4,.slice (some ⟨g_i,0,none⟩) k k,.int .i64 0,.slice (some ⟨g_r,0,none⟩) n n]=wg at n_B0 n_x n_s n_i n_r n_HB ⊢
 change Exit.then _ _ _ _ _
 go_wp2_with (first|(go_at_call 165;refine (P7 _).mono ?_;rintro e w5 ⟨rfl,rfl⟩)|(go_at_call 159;refine (HA.out _ _ HL.out n_HB.out).mono ?_;rintro e w6 ⟨A,c,rfl,hR,hb⟩;have HV:=aA.mk (Kd.cT hR n_HB.out.size);have m0:=aA.mk (aE n_B0.out hb);have m_x:=aA.mk (aE n_x.out hb);have m_s:=aA.mk (aE n_s.out hb);have m_i:=aA.mk (aE n_i.out hb);have m_r:=aA.mk (aE n_r.out hb);have m_HB:=aA.mk (bA n_HB.out hb);clear hb hR n_B0 n_x n_s n_i n_r n_HB HA;obtain ⟨d0,f0,d1,f1,d2,f2,d3,f3,d4,f4,d5,f5,d6,f6⟩:=fP m_x.out;obtain ⟨p0,q0,p1,q1,p2,q2,p3,q3,p4,q4,p5,q5,p6,q6⟩:=fP m0.out;have ne0:w.heap.size≠g_x:=Nat.ne_of_lt G_x.out;have ne1:g_x≠w.heap.size:=fun e=>ne0 e.symm))
 clear d0 f0 p0 q0 d1 f1 p1 q1 d2 f2 p2 q2 d3 f3 p3 q3 d4 f4 p4 q4 d5 f5 p5 q5 d6 f6 p6 q6
 obtain ⟨WF,hWF,h1,h2,h3⟩:=kX (szs:= [1,1,n,n]) (xs:=List.replicate k 0) (r7:=List.replicate n 0) (m:=0) (lo:=lo) (un:=un) m0.out m_x.out G_x.out m_HB.out m_s.out (by simpa [bL] using m_i.out) (by simpa [bL] using m_r.out) (Nat.le_of_lt G_s.out) (Nat.le_of_lt G_i.out) (Nat.le_of_lt G_r.out) HV.out (by simp) (by have:=HK.out;simp;omega) (by simp;omega)
 simp only [List.length_replicate,List.length_set] at hWF h2 h3
 change bodyPost _ _ _ _ _ (hU (gC w6 g_x _ _ _) w.heap.size _ _ _ _ _ _ _)
 have hWF2:WF=hU (gC w6 g_x (.slice A l.length c) (.int .i64 lo) (.int .i64 un)) w.heap.size (.slice A l.length c) (.int .i64 lo) (.int .i64 un) (.slice (some ⟨g_s,0,none⟩) 4 4) (.slice (some ⟨g_i,0,none⟩) k k) (.int .i64 0) (.slice (some ⟨g_r,0,none⟩) n n):=hWF
 rw [← hWF2]
 clear hWF hWF2
 obtain ⟨r0,r1,r2,r3,r4,r5,r6⟩:=gJ h2
 exact bodyPost_ret (v:= .tuple #[.agg #[.slice A l.length c,.int .i64 lo,.int .i64 un,.slice (some ⟨g_s,0,none⟩) 4 4,.slice (some ⟨g_i,0,none⟩) k k,.int .i64 0,.slice (some ⟨g_r,0,none⟩) n n],.int .i64 0]) (by simp [results,Tryz.results110,go_sem, *]) rfl ⟨_,rfl,h1,h3⟩
theorem sO (l:List dA) (lo un:Int) (ha:dZ gZ l lo un) (n ea:Nat) (w:World) (hl:dO w) (n1:1≤n) (n64:n≤64) (e1n:1≤ea) (e8:ea≤8):
  Calls Tryz.prog 112 #[.int .i64 (n:Int),.int .i64 (ea:Int)] w fun e w'=>∃ v,e= .returned (.tuple #[v,.int .i64 0])∧Below w.heap.size w w'∧cQ w.heap.size w' v l lo un [1,((n*ea+1:Nat):Int),((n*ea+1:Nat):Int)] (List.replicate (2*n*ea+3) 0) ea (List.replicate n 0):=by
 have HA:=aA.mk ha
 have HL:=aA.mk hl
 have e0:decide ((n:Int)<1)=false:=decide_eq_false (by omega)
 have e1:decide (64<(n:Int))=false:=decide_eq_false (by omega)
 have e2:decide ((ea:Int)<1)=false:=decide_eq_false (by omega)
 have e3:decide (8<(ea:Int))=false:=decide_eq_false (by omega)
 obtain ⟨p,hp⟩:∃ p:Nat,p=n*ea:=⟨_,rfl⟩
 have hp8:p≤512:=by rw [hp];exact Nat.le_trans (Nat.mul_le_mul n64 e8) (by decide)
 have hw1:IntKind.i64.wrap ((n:Int)*(ea:Int))=(p:Int):=cD _ p (by rw [hp];omega) (by omega)
 obtain ⟨q,hq⟩:∃ q:Nat,q=n*ea+1:=⟨_,rfl⟩
 rw [← hq]
 have hw2:IntKind.i64.wrap ((p:Int)+1)=(q:Int):=cD _ q (by omega) (by omega)
 obtain ⟨k,hk⟩:∃ k:Nat,k=2*n*ea+3:=⟨_,rfl⟩
 rw [← hk]
 have hk2:k=2*p+3:=by rw [hk,hp,Nat.mul_assoc]
 have hw3:IntKind.i64.wrap (2*(n:Int))=2*(n:Int):=(cD _ (2*n) (by omega) (by omega)).trans (by omega)
 have hw4:IntKind.i64.wrap (2*(n:Int)*(ea:Int))=2*(p:Int):=(cD _ (2*p) (by rw [hp,Int.mul_assoc];push_cast;rfl) (by omega)).trans (by omega)
 have hw5:IntKind.i64.wrap (2*(p:Int)+3)=(k:Int):=cD _ k (by omega) (by omega)
 have MI:=aA.mk (fun W:World=>dN (P:=Tryz.prog) 33 22 (.int .u32 0) 4 Tryz.underlying33 (by kernel_rfl) rfl (by decide) k (by omega) W)
 have MR:=aA.mk (fun W:World=>dN (P:=Tryz.prog) 33 22 (.int .u32 0) 4 Tryz.underlying33 (by kernel_rfl) rfl (by decide) n (by omega) W)
 have WD:=Abs.wide
 clear ha hl
 have HK:=aA.mk (⟨hk2,hp8⟩:k=2*p+3∧p≤512)
 clear n1 hk hk2 hq hp hp8 e1n e8
 go_enter Tryz.func112,Tryz.ntmps112
 go_wp2_with fail
 have HJ:=aA.mk (show DJ w (.cells cA 114) (w.alloc (.cells cA 114)).drew from ⟨bG (aD (Below.refl w.heap.size w) _),bF w _⟩)

 obtain ⟨ds,hds⟩:∃ ds:List H8,ds= [(fun _=> .int .i64 (n:Int),[]),(fun _=> .int .i64 (ea:Int),[]),(fun _=> .int .i64 (p:Int),[]),(fun _=> .int .i64 (q:Int),[]),(fun _=> .int .i64 (n:Int),[]),(fun _=> .int .i64 (ea:Int),[]),(fun _=> .int .i64 (p:Int),[]),(fun _=> .int .i64 (q:Int),[]),(fun gs=> .slice (some ⟨(gs.getD 0 0),0,none⟩) 3 3,[.cells #[.int .i64 1,.int .i64 (q:Int),.int .i64 (q:Int)] 3 (0,0)]),(fun _=> .int .i64 (n:Int),[]),(fun _=> .int .i64 (2*(n:Int)),[]),(fun _=> .int .i64 (ea:Int),[]),(fun _=> .int .i64 (2*(p:Int)),[]),(fun _=> .int .i64 (k:Int),[]),(fun gs=> .slice (some ⟨(gs.getD 0 0),0,none⟩) k k,[.cells (bL k (.int .u32 0)) 22 (0,0)]),(fun _=> .int .i64 (ea:Int),[]),(fun _=> .int .i64 (n:Int),[]),(fun gs=> .slice (some ⟨(gs.getD 0 0),0,none⟩) n n,[.cells (bL n (.int .u32 0)) 22 (0,0)]),(fun gs=> .agg #[.slice none 0 0,.int .i64 0,.int .i64 0,.slice (some ⟨(gs.getD 0 0),0,none⟩) 3 3,.slice (some ⟨(gs.getD 1 0),0,none⟩) k k,.int .i64 (ea:Int),.slice (some ⟨(gs.getD 2 0),0,none⟩) n n],[.cells #[.int .i64 1,.int .i64 (q:Int),.int .i64 (q:Int)] 3 (0,0),.cells (bL k (.int .u32 0)) 22 (0,0),.cells (bL n (.int .u32 0)) 22 (0,0)]),(fun gs=> .pointer (some ⟨(gs.getD 0 0),0,none⟩),[.cells cA 114 (0,0)])]:=⟨_,rfl⟩
 refine hZ (w:=w) (by kernel_rfl) (k:=20) rfl (.cells cA 114 (0,0)) ds (by kernel_rfl) (by kernel_rfl) rfl rfl HJ.out ?ob ?cont
 case ob=>
  refine pK (fun QQ=>?_)
  rename_i aa1
  clear aa1 HA HL HJ e0 e1 HK WD e2 e3
  refine aW ?_ ?_
  ·refine bZ rfl (by rw [hds];rfl) (fun a' w' hs=>?_)
   have e0:=hs.own 0 (by kernel_rfl) (v:= .int .i64 (n:Int)) rfl
   clear hs hds
   go_simp
  refine aW ?_ ?_
  ·refine bZ rfl (by rw [hds];rfl) (fun a' w' hs=>?_)
   have e1:=hs.own 1 (by kernel_rfl) (v:= .int .i64 (ea:Int)) rfl
   clear hs hds
   go_simp
  refine aW ?_ ?_
  ·refine bZ rfl (by rw [hds];rfl) (fun a' w' hs=>?_)
   have e22:=hs.val 0 22 (by kernel_rfl) (by kernel_rfl) (v:= .int .i64 (n:Int)) (by rw [hds];rfl)
   have e23:=hs.val 1 23 (by kernel_rfl) (by kernel_rfl) (v:= .int .i64 (ea:Int)) (by rw [hds];rfl)
   clear hs hds
   go_simp
  refine aW ?_ ?_
  ·refine bZ rfl (by rw [hds];rfl) (fun a' w' hs=>?_)
   have e24:=hs.val 2 24 (by kernel_rfl) (by kernel_rfl) (v:= .int .i64 (p:Int)) (by rw [hds];rfl)
   clear hs hds
   go_simp
  refine aW ?_ ?_
  ·refine bZ rfl (by rw [hds];rfl) (fun a' w' hs=>?_)
   have e0:=hs.own 0 (by kernel_rfl) (v:= .int .i64 (n:Int)) rfl
   clear hs hds
   go_simp
  refine aW ?_ ?_
  ·refine bZ rfl (by rw [hds];rfl) (fun a' w' hs=>?_)
   have e1:=hs.own 1 (by kernel_rfl) (v:= .int .i64 (ea:Int)) rfl
   clear hs hds
   go_simp
  refine aW ?_ ?_
  ·refine bZ rfl (by rw [hds];rfl) (fun a' w' hs=>?_)
   have e26:=hs.val 4 26 (by kernel_rfl) (by kernel_rfl) (v:= .int .i64 (n:Int)) (by rw [hds];rfl)
   have e27:=hs.val 5 27 (by kernel_rfl) (by kernel_rfl) (v:= .int .i64 (ea:Int)) (by rw [hds];rfl)
   clear hs hds
   go_simp
  refine aW ?_ ?_
  ·refine bZ rfl (by rw [hds];rfl) (fun a' w' hs=>?_)
   have e28:=hs.val 6 28 (by kernel_rfl) (by kernel_rfl) (v:= .int .i64 (p:Int)) (by rw [hds];rfl)
   clear hs hds
   go_simp
  refine aW ?_ ?_
  ·refine cZ rfl (by rw [hds];rfl) (fun a' w' hs=>?_)
   have e25:=hs.val 3 25 (by kernel_rfl) (by kernel_rfl) (v:= .int .i64 (q:Int)) (by rw [hds];rfl)
   have e29:=hs.val 7 29 (by kernel_rfl) (by kernel_rfl) (v:= .int .i64 (q:Int)) (by rw [hds];rfl)
   clear hs hds
   go_simp
  refine aW ?_ ?_
  ·refine bZ rfl (by rw [hds];rfl) (fun a' w' hs=>?_)
   have e0:=hs.own 0 (by kernel_rfl) (v:= .int .i64 (n:Int)) rfl
   clear hs hds
   go_simp
  refine aW ?_ ?_
  ·refine bZ rfl (by rw [hds];rfl) (fun a' w' hs=>?_)
   have e31:=hs.val 9 31 (by kernel_rfl) (by kernel_rfl) (v:= .int .i64 (n:Int)) (by rw [hds];rfl)
   clear hs hds
   go_simp
  refine aW ?_ ?_
  ·refine bZ rfl (by rw [hds];rfl) (fun a' w' hs=>?_)
   have e1:=hs.own 1 (by kernel_rfl) (v:= .int .i64 (ea:Int)) rfl
   clear hs hds
   go_simp
  refine aW ?_ ?_
  ·refine bZ rfl (by rw [hds];rfl) (fun a' w' hs=>?_)
   have e32:=hs.val 10 32 (by kernel_rfl) (by kernel_rfl) (v:= .int .i64 (2*(n:Int))) (by rw [hds];rfl)
   have e33:=hs.val 11 33 (by kernel_rfl) (by kernel_rfl) (v:= .int .i64 (ea:Int)) (by rw [hds];rfl)
   clear hs hds
   go_simp
  refine aW ?_ ?_
  ·refine bZ rfl (by rw [hds];rfl) (fun a' w' hs=>?_)
   have e34:=hs.val 12 34 (by kernel_rfl) (by kernel_rfl) (v:= .int .i64 (2*(p:Int))) (by rw [hds];rfl)
   clear hs hds
   go_simp
  refine aW ?_ ?_
  ·refine cZ rfl (by rw [hds];rfl) (fun a' w' hs=>?_)
   have e35:=hs.val 13 35 (by kernel_rfl) (by kernel_rfl) (v:= .int .i64 (k:Int)) (by rw [hds];rfl)
   clear hs hds
   have hmk:=MI.out w';go_simp
  refine aW ?_ ?_
  ·refine bZ rfl (by rw [hds];rfl) (fun a' w' hs=>?_)
   have e1:=hs.own 1 (by kernel_rfl) (v:= .int .i64 (ea:Int)) rfl
   clear hs hds
   go_simp
  refine aW ?_ ?_
  ·refine bZ rfl (by rw [hds];rfl) (fun a' w' hs=>?_)
   have e0:=hs.own 0 (by kernel_rfl) (v:= .int .i64 (n:Int)) rfl
   clear hs hds
   go_simp
  refine aW ?_ ?_
  ·refine cZ rfl (by rw [hds];rfl) (fun a' w' hs=>?_)
   have e38:=hs.val 16 38 (by kernel_rfl) (by kernel_rfl) (v:= .int .i64 (n:Int)) (by rw [hds];rfl)
   clear hs hds
   have hmk:=MR.out w';go_simp
  refine aW ?_ ?_
  ·refine sF rfl (by rw [hds];rfl) (fun a' w' hs=>?_)
   obtain ⟨g30,e30,b30⟩:=hs.D5 8 30 (by kernel_rfl) (by kernel_rfl) (by rw [hds];rfl)
   obtain ⟨g36,e36,b36⟩:=hs.D5 14 36 (by kernel_rfl) (by kernel_rfl) (by rw [hds];rfl)
   have e37:=hs.val 15 37 (by kernel_rfl) (by kernel_rfl) (v:= .int .i64 (ea:Int)) (by rw [hds];rfl)
   obtain ⟨g39,e39,b39⟩:=hs.D5 17 39 (by kernel_rfl) (by kernel_rfl) (by rw [hds];rfl)
   clear hs hds
   obtain ⟨c30,rfl,h30,l30⟩:=b30.one
   obtain ⟨c36,rfl,h36,l36⟩:=b36.one
   obtain ⟨c39,rfl,h39,l39⟩:=b39.one
   refine ⟨[c30,c36,c39],?_,lF.mk3 h30 l30 h36 l36 h39 l39⟩
   dsimp only [List.getD_cons_zero,List.getD_cons_succ] at*
   go_simp
  refine aW ?_ o6
  ·refine cZ rfl (by rw [hds];rfl) (fun a' w' hs=>?_)
   clear hs hds
   kernel_rfl
 intro vs wf hJ hv
 generalize hA:iY _ _ 0 vs=A
 have q0:=hv.val 0 (.int .i64 (n:Int)) (by decide) (by rw [hds];rfl)
 have q1:=hv.val 1 (.int .i64 (ea:Int)) (by decide) (by rw [hds];rfl)
 have q2:=hv.val 2 (.int .i64 (p:Int)) (by decide) (by rw [hds];rfl)
 have q3:=hv.val 3 (.int .i64 (q:Int)) (by decide) (by rw [hds];rfl)
 have q4:=hv.val 4 (.int .i64 (n:Int)) (by decide) (by rw [hds];rfl)
 have q5:=hv.val 5 (.int .i64 (ea:Int)) (by decide) (by rw [hds];rfl)
 have q6:=hv.val 6 (.int .i64 (p:Int)) (by decide) (by rw [hds];rfl)
 have q7:=hv.val 7 (.int .i64 (q:Int)) (by decide) (by rw [hds];rfl)
 obtain ⟨x8,q8,F8,G8⟩:=hv.one 8 (fun gs=> .slice (some ⟨(gs.getD 0 0),0,none⟩) 3 3) (.cells #[.int .i64 1,.int .i64 (q:Int),.int .i64 (q:Int)] 3 (0,0)) (by decide) (by rw [hds];rfl)
 have q9:=hv.val 9 (.int .i64 (n:Int)) (by decide) (by rw [hds];rfl)
 have q10:=hv.val 10 (.int .i64 (2*(n:Int))) (by decide) (by rw [hds];rfl)
 have q11:=hv.val 11 (.int .i64 (ea:Int)) (by decide) (by rw [hds];rfl)
 have q12:=hv.val 12 (.int .i64 (2*(p:Int))) (by decide) (by rw [hds];rfl)
 have q13:=hv.val 13 (.int .i64 (k:Int)) (by decide) (by rw [hds];rfl)
 obtain ⟨x14,q14,F14,G14⟩:=hv.one 14 (fun gs=> .slice (some ⟨(gs.getD 0 0),0,none⟩) k k) (.cells (bL k (.int .u32 0)) 22 (0,0)) (by decide) (by rw [hds];rfl)
 have q15:=hv.val 15 (.int .i64 (ea:Int)) (by decide) (by rw [hds];rfl)
 have q16:=hv.val 16 (.int .i64 (n:Int)) (by decide) (by rw [hds];rfl)
 obtain ⟨x17,q17,F17,G17⟩:=hv.one 17 (fun gs=> .slice (some ⟨(gs.getD 0 0),0,none⟩) n n) (.cells (bL n (.int .u32 0)) 22 (0,0)) (by decide) (by rw [hds];rfl)
 obtain ⟨g_s,g_i,g_r,q18,⟨F_s,l_s⟩,⟨F_i,l_i⟩,F_r,l_r⟩:=hv.three 18 (fun gs=> .agg #[.slice none 0 0,.int .i64 0,.int .i64 0,.slice (some ⟨(gs.getD 0 0),0,none⟩) 3 3,.slice (some ⟨(gs.getD 1 0),0,none⟩) k k,.int .i64 (ea:Int),.slice (some ⟨(gs.getD 2 0),0,none⟩) n n]) (.cells #[.int .i64 1,.int .i64 (q:Int),.int .i64 (q:Int)] 3 (0,0)) (.cells (bL k (.int .u32 0)) 22 (0,0)) (.cells (bL n (.int .u32 0)) 22 (0,0)) (by decide) (by rw [hds];rfl)
 obtain ⟨g_x,q19,F19,G19⟩:=hv.one 19 (fun gs=> .pointer (some ⟨(gs.getD 0 0),0,none⟩)) (.cells cA 114 (0,0)) (by decide) (by rw [hds];rfl)
 clear hv hds
 simp only [List.toList_toArray,List.take_succ_cons,List.take_zero,iY,Act.put,List.setIfInBounds_toArray,List.set_cons_zero,List.set_cons_succ,Nat.reduceAdd,List.getD_cons_zero,List.getD_cons_succ,q0,q1,q2,q3,q4,q5,q6,q7,q8,q9,q10,q11,q12,q13,q14,q15,q16,q17,q18,q19] at hA
 subst hA
 clear q0 q1 q2 q3 q4 q5 q6 q7 q8 q9 q10 q11 q12 q13 q14 q15 q16 q17 q18 q19 F8 G8 F14 G14 F17 G17
 refine wp_store_row 114 (.tmp 6) (.tmp 40) rfl g_x #[.slice none 0 0,.int .i64 0,.int .i64 0,.slice (some ⟨g_s,0,none⟩) 3 3,.slice (some ⟨g_i,0,none⟩) k k,.int .i64 (ea:Int),.slice (some ⟨g_r,0,none⟩) n n] rfl rfl 114 _ F19 (by kernel_rfl) rfl (by kernel_rfl) ?_
 have n_s:=aA.mk ((setRow_other wf g_x _ #[.slice none 0 0,.int .i64 0,.int .i64 0,.slice (some ⟨g_s,0,none⟩) 3 3,.slice (some ⟨g_i,0,none⟩) k k,.int .i64 (ea:Int),.slice (some ⟨g_r,0,none⟩) n n] (aK F_s F19 (by decide))).trans F_s)
 have n_i:=aA.mk ((setRow_other wf g_x _ #[.slice none 0 0,.int .i64 0,.int .i64 0,.slice (some ⟨g_s,0,none⟩) 3 3,.slice (some ⟨g_i,0,none⟩) k k,.int .i64 (ea:Int),.slice (some ⟨g_r,0,none⟩) n n] (aK F_i F19 (by decide))).trans F_i)
 have n_r:=aA.mk ((setRow_other wf g_x _ #[.slice none 0 0,.int .i64 0,.int .i64 0,.slice (some ⟨g_s,0,none⟩) 3 3,.slice (some ⟨g_i,0,none⟩) k k,.int .i64 (ea:Int),.slice (some ⟨g_r,0,none⟩) n n] (aK F_r F19 (by decide))).trans F_r)
 have n_B0:=aA.mk (show (wf.setRow g_x #[.slice none 0 0,.int .i64 0,.int .i64 0,.slice (some ⟨g_s,0,none⟩) 3 3,.slice (some ⟨g_i,0,none⟩) k k,.int .i64 (ea:Int),.slice (some ⟨g_r,0,none⟩) n n]).heap[w.heap.size]?=some (.cells #[.slice none 0 0,.int .i64 0,.int .i64 0,.slice none 0 0,.slice none 0 0,.int .i64 0,.slice none 0 0] 114 (0,0)) from (setRow_other wf g_x _ #[.slice none 0 0,.int .i64 0,.int .i64 0,.slice (some ⟨g_s,0,none⟩) 3 3,.slice (some ⟨g_i,0,none⟩) k k,.int .i64 (ea:Int),.slice (some ⟨g_r,0,none⟩) n n] (Nat.ne_of_lt G19)).trans hJ.at_)
 have n_x:=aA.mk (setRow_heap wf g_x _ #[.slice none 0 0,.int .i64 0,.int .i64 0,.slice (some ⟨g_s,0,none⟩) 3 3,.slice (some ⟨g_i,0,none⟩) k k,.int .i64 (ea:Int),.slice (some ⟨g_r,0,none⟩) n n] 114 (0,0) F19)
 have n_HB:=aA.mk (below_setRow hJ.below (Nat.le_of_lt G19) #[.slice none 0 0,.int .i64 0,.int .i64 0,.slice (some ⟨g_s,0,none⟩) 3 3,.slice (some ⟨g_i,0,none⟩) k k,.int .i64 (ea:Int),.slice (some ⟨g_r,0,none⟩) n n])
 have G_s:=aA.mk l_s
 have G_i:=aA.mk l_i
 have G_r:=aA.mk l_r
 have G_x:=aA.mk G19
 clear F_s F_i F_r F19 hJ l_s l_i l_r G19
 generalize wf.setRow g_x #[.slice none 0 0,.int .i64 0,.int .i64 0,.slice (some ⟨g_s,0,none⟩) 3 3,.slice (some ⟨g_i,0,none⟩) k k,.int .i64 (ea:Int),.slice (some ⟨g_r,0,none⟩) n n]=wg at n_B0 n_x n_s n_i n_r n_HB ⊢
 change Exit.then _ _ _ _ _
 go_wp2_with (first|(go_at_call 167;refine (F0 _).mono ?_;rintro e w5 ⟨rfl,rfl⟩)|(go_at_call 159;refine (HA.out _ _ HL.out n_HB.out).mono ?_;rintro e w6 ⟨A,c,rfl,hR,hb⟩;have HV:=aA.mk (Kd.cT hR n_HB.out.size);have m0:=aA.mk (aE n_B0.out hb);have m_x:=aA.mk (aE n_x.out hb);have m_s:=aA.mk (aE n_s.out hb);have m_i:=aA.mk (aE n_i.out hb);have m_r:=aA.mk (aE n_r.out hb);have m_HB:=aA.mk (bA n_HB.out hb);clear hb hR n_B0 n_x n_s n_i n_r n_HB HA;obtain ⟨d0,f0,d1,f1,d2,f2,d3,f3,d4,f4,d5,f5,d6,f6⟩:=fP m_x.out;obtain ⟨p0,q0,p1,q1,p2,q2,p3,q3,p4,q4,p5,q5,p6,q6⟩:=fP m0.out;have ne0:w.heap.size≠g_x:=Nat.ne_of_lt G_x.out;have ne1:g_x≠w.heap.size:=fun e=>ne0 e.symm))
 clear d0 f0 p0 q0 d1 f1 p1 q1 d2 f2 p2 q2 d3 f3 p3 q3 d4 f4 p4 q4 d5 f5 p5 q5 d6 f6 p6 q6
 obtain ⟨WF,hWF,h1,h2,h3⟩:=kX (szs:= [1,(q:Int),(q:Int)]) (xs:=List.replicate k 0) (r7:=List.replicate n 0) (m:=(ea:Int)) (lo:=lo) (un:=un) m0.out m_x.out G_x.out m_HB.out m_s.out (by simpa [bL] using m_i.out) (by simpa [bL] using m_r.out) (Nat.le_of_lt G_s.out) (Nat.le_of_lt G_i.out) (Nat.le_of_lt G_r.out) HV.out (by simp) (by have:=HK.out;simp;omega) (by simp;omega)
 simp only [List.length_replicate,List.length_set] at hWF h2 h3
 change bodyPost _ _ _ _ _ (hU (gC w6 g_x _ _ _) w.heap.size _ _ _ _ _ _ _)
 have hWF2:WF=hU (gC w6 g_x (.slice A l.length c) (.int .i64 lo) (.int .i64 un)) w.heap.size (.slice A l.length c) (.int .i64 lo) (.int .i64 un) (.slice (some ⟨g_s,0,none⟩) 3 3) (.slice (some ⟨g_i,0,none⟩) k k) (.int .i64 (ea:Int)) (.slice (some ⟨g_r,0,none⟩) n n):=hWF
 rw [← hWF2]
 clear hWF hWF2
 obtain ⟨r0,r1,r2,r3,r4,r5,r6⟩:=gJ h2
 exact bodyPost_ret (v:= .tuple #[.agg #[.slice A l.length c,.int .i64 lo,.int .i64 un,.slice (some ⟨g_s,0,none⟩) 3 3,.slice (some ⟨g_i,0,none⟩) k k,.int .i64 (ea:Int),.slice (some ⟨g_r,0,none⟩) n n],.int .i64 0]) (by simp [results,Tryz.results112,go_sem, *]) rfl ⟨_,rfl,h1,h3⟩
theorem sD (l:List dA) (lo un:Int) (ha:dZ gY l lo un) (n ea:Nat) (w:World) (hl:dO w) (n1:1≤n) (n64:n≤64) (e2n:2≤ea) (e8:ea≤8):
  Calls Tryz.prog 111 #[.int .i64 (n:Int),.int .i64 (ea:Int)] w fun e w'=>∃ v,e= .returned (.tuple #[v,.int .i64 0])∧Below w.heap.size w w'∧cQ w.heap.size w' v l lo un [1,((n*ea+1:Nat):Int)] ((List.replicate (n*ea+2) 0).set 1 1) ea (List.replicate n 0):=by
 have HA:=aA.mk ha
 have HL:=aA.mk hl
 have e0:decide ((n:Int)<1)=false:=decide_eq_false (by omega)
 have e1:decide (64<(n:Int))=false:=decide_eq_false (by omega)
 have e2:decide ((ea:Int)<2)=false:=decide_eq_false (by omega)
 have e3:decide (8<(ea:Int))=false:=decide_eq_false (by omega)
 obtain ⟨p,hp⟩:∃ p:Nat,p=n*ea:=⟨_,rfl⟩
 have hp8:p≤512:=by rw [hp];exact Nat.le_trans (Nat.mul_le_mul n64 e8) (by decide)
 have hw1:IntKind.i64.wrap ((n:Int)*(ea:Int))=(p:Int):=cD _ p (by rw [hp];omega) (by omega)
 obtain ⟨q,hq⟩:∃ q:Nat,q=n*ea+1:=⟨_,rfl⟩
 rw [← hq]
 have hw2:IntKind.i64.wrap ((p:Int)+1)=(q:Int):=cD _ q (by omega) (by omega)
 obtain ⟨k,hk⟩:∃ k:Nat,k=n*ea+2:=⟨_,rfl⟩
 rw [← hk]
 have hk2:k=p+2:=by rw [hk,hp]
 have hnp:n≤p:=by rw [hp];exact Nat.le_mul_of_pos_right n (by omega)
 have hw5:IntKind.i64.wrap ((p:Int)+2)=(k:Int):=cD _ k (by omega) (by omega)
 have MI:=aA.mk (fun W:World=>dN (P:=Tryz.prog) 33 22 (.int .u32 0) 4 Tryz.underlying33 (by kernel_rfl) rfl (by decide) k (by omega) W)
 have MR:=aA.mk (fun W:World=>dN (P:=Tryz.prog) 33 22 (.int .u32 0) 4 Tryz.underlying33 (by kernel_rfl) rfl (by decide) n (by omega) W)
 have WD:=Abs.wide
 clear ha hl
 have HK:=aA.mk (⟨hk2,hp8,hnp⟩:k=p+2∧p≤512∧n≤p)
 clear n1 hk hk2 hnp hq hp hp8 e2n e8
 go_enter Tryz.func111,Tryz.ntmps111
 go_wp2_with fail
 have HJ:=aA.mk (show DJ w (.cells cA 114) (w.alloc (.cells cA 114)).drew from ⟨bG (aD (Below.refl w.heap.size w) _),bF w _⟩)

 obtain ⟨ds,hds⟩:∃ ds:List H8,ds= [(fun _=> .int .i64 (n:Int),[]),(fun _=> .int .i64 (ea:Int),[]),(fun _=> .int .i64 (p:Int),[]),(fun _=> .int .i64 (q:Int),[]),(fun gs=> .slice (some ⟨(gs.getD 0 0),0,none⟩) 2 2,[.cells #[.int .i64 1,.int .i64 (q:Int)] 3 (0,0)]),(fun _=> .int .i64 (n:Int),[]),(fun _=> .int .i64 (ea:Int),[]),(fun _=> .int .i64 (p:Int),[]),(fun _=> .int .i64 (k:Int),[]),(fun gs=> .slice (some ⟨(gs.getD 0 0),0,none⟩) k k,[.cells (bL k (.int .u32 0)) 22 (0,0)]),(fun _=> .int .i64 (ea:Int),[]),(fun _=> .int .i64 (n:Int),[]),(fun gs=> .slice (some ⟨(gs.getD 0 0),0,none⟩) n n,[.cells (bL n (.int .u32 0)) 22 (0,0)]),(fun gs=> .agg #[.slice none 0 0,.int .i64 0,.int .i64 0,.slice (some ⟨(gs.getD 0 0),0,none⟩) 2 2,.slice (some ⟨(gs.getD 1 0),0,none⟩) k k,.int .i64 (ea:Int),.slice (some ⟨(gs.getD 2 0),0,none⟩) n n],[.cells #[.int .i64 1,.int .i64 (q:Int)] 3 (0,0),.cells (bL k (.int .u32 0)) 22 (0,0),.cells (bL n (.int .u32 0)) 22 (0,0)]),(fun gs=> .pointer (some ⟨(gs.getD 0 0),0,none⟩),[.cells cA 114 (0,0)])]:=⟨_,rfl⟩
 refine hZ (w:=w) (by kernel_rfl) (k:=15) rfl (.cells cA 114 (0,0)) ds (by kernel_rfl) (by kernel_rfl) rfl rfl HJ.out ?ob ?cont
 case ob=>
  refine pK (fun QQ=>?_)
  rename_i aa1
  clear aa1 HA HL HJ e0 e1 HK WD e2 e3
  refine aW ?_ ?_
  ·refine bZ rfl (by rw [hds];rfl) (fun a' w' hs=>?_)
   have e0:=hs.own 0 (by kernel_rfl) (v:= .int .i64 (n:Int)) rfl
   clear hs hds
   go_simp
  refine aW ?_ ?_
  ·refine bZ rfl (by rw [hds];rfl) (fun a' w' hs=>?_)
   have e1:=hs.own 1 (by kernel_rfl) (v:= .int .i64 (ea:Int)) rfl
   clear hs hds
   go_simp
  refine aW ?_ ?_
  ·refine bZ rfl (by rw [hds];rfl) (fun a' w' hs=>?_)
   have e22:=hs.val 0 22 (by kernel_rfl) (by kernel_rfl) (v:= .int .i64 (n:Int)) (by rw [hds];rfl)
   have e23:=hs.val 1 23 (by kernel_rfl) (by kernel_rfl) (v:= .int .i64 (ea:Int)) (by rw [hds];rfl)
   clear hs hds
   go_simp
  refine aW ?_ ?_
  ·refine bZ rfl (by rw [hds];rfl) (fun a' w' hs=>?_)
   have e24:=hs.val 2 24 (by kernel_rfl) (by kernel_rfl) (v:= .int .i64 (p:Int)) (by rw [hds];rfl)
   clear hs hds
   go_simp
  refine aW ?_ ?_
  ·refine cZ rfl (by rw [hds];rfl) (fun a' w' hs=>?_)
   have e25:=hs.val 3 25 (by kernel_rfl) (by kernel_rfl) (v:= .int .i64 (q:Int)) (by rw [hds];rfl)
   clear hs hds
   go_simp
  refine aW ?_ ?_
  ·refine bZ rfl (by rw [hds];rfl) (fun a' w' hs=>?_)
   have e0:=hs.own 0 (by kernel_rfl) (v:= .int .i64 (n:Int)) rfl
   clear hs hds
   go_simp
  refine aW ?_ ?_
  ·refine bZ rfl (by rw [hds];rfl) (fun a' w' hs=>?_)
   have e1:=hs.own 1 (by kernel_rfl) (v:= .int .i64 (ea:Int)) rfl
   clear hs hds
   go_simp
  refine aW ?_ ?_
  ·refine bZ rfl (by rw [hds];rfl) (fun a' w' hs=>?_)
   have e27:=hs.val 5 27 (by kernel_rfl) (by kernel_rfl) (v:= .int .i64 (n:Int)) (by rw [hds];rfl)
   have e28:=hs.val 6 28 (by kernel_rfl) (by kernel_rfl) (v:= .int .i64 (ea:Int)) (by rw [hds];rfl)
   clear hs hds
   go_simp
  refine aW ?_ ?_
  ·refine bZ rfl (by rw [hds];rfl) (fun a' w' hs=>?_)
   have e29:=hs.val 7 29 (by kernel_rfl) (by kernel_rfl) (v:= .int .i64 (p:Int)) (by rw [hds];rfl)
   clear hs hds
   go_simp
  refine aW ?_ ?_
  ·refine cZ rfl (by rw [hds];rfl) (fun a' w' hs=>?_)
   have e30:=hs.val 8 30 (by kernel_rfl) (by kernel_rfl) (v:= .int .i64 (k:Int)) (by rw [hds];rfl)
   clear hs hds
   have hmk:=MI.out w';go_simp
  refine aW ?_ ?_
  ·refine bZ rfl (by rw [hds];rfl) (fun a' w' hs=>?_)
   have e1:=hs.own 1 (by kernel_rfl) (v:= .int .i64 (ea:Int)) rfl
   clear hs hds
   go_simp
  refine aW ?_ ?_
  ·refine bZ rfl (by rw [hds];rfl) (fun a' w' hs=>?_)
   have e0:=hs.own 0 (by kernel_rfl) (v:= .int .i64 (n:Int)) rfl
   clear hs hds
   go_simp
  refine aW ?_ ?_
  ·refine cZ rfl (by rw [hds];rfl) (fun a' w' hs=>?_)
   have e33:=hs.val 11 33 (by kernel_rfl) (by kernel_rfl) (v:= .int .i64 (n:Int)) (by rw [hds];rfl)
   clear hs hds
   have hmk:=MR.out w';go_simp
  refine aW ?_ ?_
  ·refine sF rfl (by rw [hds];rfl) (fun a' w' hs=>?_)
   obtain ⟨g26,e26,b26⟩:=hs.D5 4 26 (by kernel_rfl) (by kernel_rfl) (by rw [hds];rfl)
   obtain ⟨g31,e31,b31⟩:=hs.D5 9 31 (by kernel_rfl) (by kernel_rfl) (by rw [hds];rfl)
   have e32:=hs.val 10 32 (by kernel_rfl) (by kernel_rfl) (v:= .int .i64 (ea:Int)) (by rw [hds];rfl)
   obtain ⟨g34,e34,b34⟩:=hs.D5 12 34 (by kernel_rfl) (by kernel_rfl) (by rw [hds];rfl)
   clear hs hds
   obtain ⟨c26,rfl,h26,l26⟩:=b26.one
   obtain ⟨c31,rfl,h31,l31⟩:=b31.one
   obtain ⟨c34,rfl,h34,l34⟩:=b34.one
   refine ⟨[c26,c31,c34],?_,lF.mk3 h26 l26 h31 l31 h34 l34⟩
   dsimp only [List.getD_cons_zero,List.getD_cons_succ] at*
   go_simp
  refine aW ?_ o6
  ·refine cZ rfl (by rw [hds];rfl) (fun a' w' hs=>?_)
   clear hs hds
   kernel_rfl
 intro vs wf hJ hv
 generalize hA:iY _ _ 0 vs=A
 have q0:=hv.val 0 (.int .i64 (n:Int)) (by decide) (by rw [hds];rfl)
 have q1:=hv.val 1 (.int .i64 (ea:Int)) (by decide) (by rw [hds];rfl)
 have q2:=hv.val 2 (.int .i64 (p:Int)) (by decide) (by rw [hds];rfl)
 have q3:=hv.val 3 (.int .i64 (q:Int)) (by decide) (by rw [hds];rfl)
 obtain ⟨x4,q4,F4,G4⟩:=hv.one 4 (fun gs=> .slice (some ⟨(gs.getD 0 0),0,none⟩) 2 2) (.cells #[.int .i64 1,.int .i64 (q:Int)] 3 (0,0)) (by decide) (by rw [hds];rfl)
 have q5:=hv.val 5 (.int .i64 (n:Int)) (by decide) (by rw [hds];rfl)
 have q6:=hv.val 6 (.int .i64 (ea:Int)) (by decide) (by rw [hds];rfl)
 have q7:=hv.val 7 (.int .i64 (p:Int)) (by decide) (by rw [hds];rfl)
 have q8:=hv.val 8 (.int .i64 (k:Int)) (by decide) (by rw [hds];rfl)
 obtain ⟨x9,q9,F9,G9⟩:=hv.one 9 (fun gs=> .slice (some ⟨(gs.getD 0 0),0,none⟩) k k) (.cells (bL k (.int .u32 0)) 22 (0,0)) (by decide) (by rw [hds];rfl)
 have q10:=hv.val 10 (.int .i64 (ea:Int)) (by decide) (by rw [hds];rfl)
 have q11:=hv.val 11 (.int .i64 (n:Int)) (by decide) (by rw [hds];rfl)
 obtain ⟨x12,q12,F12,G12⟩:=hv.one 12 (fun gs=> .slice (some ⟨(gs.getD 0 0),0,none⟩) n n) (.cells (bL n (.int .u32 0)) 22 (0,0)) (by decide) (by rw [hds];rfl)
 obtain ⟨g_s,g_i,g_r,q13,⟨F_s,l_s⟩,⟨F_i,l_i⟩,F_r,l_r⟩:=hv.three 13 (fun gs=> .agg #[.slice none 0 0,.int .i64 0,.int .i64 0,.slice (some ⟨(gs.getD 0 0),0,none⟩) 2 2,.slice (some ⟨(gs.getD 1 0),0,none⟩) k k,.int .i64 (ea:Int),.slice (some ⟨(gs.getD 2 0),0,none⟩) n n]) (.cells #[.int .i64 1,.int .i64 (q:Int)] 3 (0,0)) (.cells (bL k (.int .u32 0)) 22 (0,0)) (.cells (bL n (.int .u32 0)) 22 (0,0)) (by decide) (by rw [hds];rfl)
 obtain ⟨g_x,q14,F14,G14⟩:=hv.one 14 (fun gs=> .pointer (some ⟨(gs.getD 0 0),0,none⟩)) (.cells cA 114 (0,0)) (by decide) (by rw [hds];rfl)
 clear hv hds
 simp only [List.toList_toArray,List.take_succ_cons,List.take_zero,iY,Act.put,List.setIfInBounds_toArray,List.set_cons_zero,List.set_cons_succ,Nat.reduceAdd,List.getD_cons_zero,List.getD_cons_succ,q0,q1,q2,q3,q4,q5,q6,q7,q8,q9,q10,q11,q12,q13,q14] at hA
 subst hA
 clear q0 q1 q2 q3 q4 q5 q6 q7 q8 q9 q10 q11 q12 q13 q14 F4 G4 F9 G9 F12 G12
 refine wp_store_row 114 (.tmp 6) (.tmp 35) rfl g_x #[.slice none 0 0,.int .i64 0,.int .i64 0,.slice (some ⟨g_s,0,none⟩) 2 2,.slice (some ⟨g_i,0,none⟩) k k,.int .i64 (ea:Int),.slice (some ⟨g_r,0,none⟩) n n] rfl rfl 114 _ F14 (by kernel_rfl) rfl (by kernel_rfl) ?_
 have n_s:=aA.mk ((setRow_other wf g_x _ #[.slice none 0 0,.int .i64 0,.int .i64 0,.slice (some ⟨g_s,0,none⟩) 2 2,.slice (some ⟨g_i,0,none⟩) k k,.int .i64 (ea:Int),.slice (some ⟨g_r,0,none⟩) n n] (aK F_s F14 (by decide))).trans F_s)
 have n_i:=aA.mk ((setRow_other wf g_x _ #[.slice none 0 0,.int .i64 0,.int .i64 0,.slice (some ⟨g_s,0,none⟩) 2 2,.slice (some ⟨g_i,0,none⟩) k k,.int .i64 (ea:Int),.slice (some ⟨g_r,0,none⟩) n n] (aK F_i F14 (by decide))).trans F_i)
 have n_r:=aA.mk ((setRow_other wf g_x _ #[.slice none 0 0,.int .i64 0,.int .i64 0,.slice (some ⟨g_s,0,none⟩) 2 2,.slice (some ⟨g_i,0,none⟩) k k,.int .i64 (ea:Int),.slice (some ⟨g_r,0,none⟩) n n] (aK F_r F14 (by decide))).trans F_r)
 have n_B0:=aA.mk (show (wf.setRow g_x #[.slice none 0 0,.int .i64 0,.int .i64 0,.slice (some ⟨g_s,0,none⟩) 2 2,.slice (some ⟨g_i,0,none⟩) k k,.int .i64 (ea:Int),.slice (some ⟨g_r,0,none⟩) n n]).heap[w.heap.size]?=some (.cells #[.slice none 0 0,.int .i64 0,.int .i64 0,.slice none 0 0,.slice none 0 0,.int .i64 0,.slice none 0 0] 114 (0,0)) from (setRow_other wf g_x _ #[.slice none 0 0,.int .i64 0,.int .i64 0,.slice (some ⟨g_s,0,none⟩) 2 2,.slice (some ⟨g_i,0,none⟩) k k,.int .i64 (ea:Int),.slice (some ⟨g_r,0,none⟩) n n] (Nat.ne_of_lt G14)).trans hJ.at_)
 have n_x:=aA.mk (setRow_heap wf g_x _ #[.slice none 0 0,.int .i64 0,.int .i64 0,.slice (some ⟨g_s,0,none⟩) 2 2,.slice (some ⟨g_i,0,none⟩) k k,.int .i64 (ea:Int),.slice (some ⟨g_r,0,none⟩) n n] 114 (0,0) F14)
 have n_HB:=aA.mk (below_setRow hJ.below (Nat.le_of_lt G14) #[.slice none 0 0,.int .i64 0,.int .i64 0,.slice (some ⟨g_s,0,none⟩) 2 2,.slice (some ⟨g_i,0,none⟩) k k,.int .i64 (ea:Int),.slice (some ⟨g_r,0,none⟩) n n])
 have G_s:=aA.mk l_s
 have G_i:=aA.mk l_i
 have G_r:=aA.mk l_r
 have G_x:=aA.mk G14
 clear F_s F_i F_r F14 hJ l_s l_i l_r G14
 generalize wf.setRow g_x #[.slice none 0 0,.int .i64 0,.int .i64 0,.slice (some ⟨g_s,0,none⟩) 2 2,.slice (some ⟨g_i,0,none⟩) k k,.int .i64 (ea:Int),.slice (some ⟨g_r,0,none⟩) n n]=wg at n_B0 n_x n_s n_i n_r n_HB ⊢
 change Exit.then _ _ _ _ _
 have x4:=(aC n_x.out 4).trans rfl
 have zk:∀ j:Nat,j<k→(bL k (.int .u32 0))[j]?=some (.int .u32 0):=fun j hj=>by simp [bL,hj]
 have i1:=(aC n_i.out 1).trans (zk 1 (by have:=HK.out;omega))
 have fi:=aG n_i.out 1
 have hb1:decide ((1:Int)<(k:Int))=true:=decide_eq_true (by have:=HK.out;omega)
 have hb2:(1:Nat)<k:=by have:=HK.out;omega
 go_wp2_with fail
 have NIR:=aA.mk (show ¬ g_r=g_i from fun e=>by
  have h1:=n_r.out
  rw [e,n_i.out] at h1
  have h3:=congrArg (fun o=>match o with|some (Obj.cells c _ _)=>c.size|_=>0) h1
  simp [bL] at h3
  have h4:=HK.out
  omega)
 have M1:Mod (fun q=>q=g_i) wg (wg.setCell ⟨g_i,1,none⟩ (.int .u32 1)):=Mod.setCell (S:=fun q=>q=g_i) (Mod.refl _ wg) (p:=⟨g_i,1,none⟩) rfl _
 have o_i:=aA.mk (show (wg.setCell ⟨g_i,1,none⟩ (.int .u32 1)).heap[g_i]?=some (.cells (((List.replicate k 0).set 1 1).map (Value.int .u32)).toArray 22 (0,0)) from (bE n_i.out 1 _).trans (by rw [rW,rJ]))
 have T1:∀ q,q=g_i→∃ c t,wg.heap[q]?=some (.cells c t (0,0))∧t=22:=fun q hq=>⟨_,_,hq▸n_i.out,rfl⟩
 have o_B0:=aA.mk (M1.qT n_B0.out (fun q hq=>by obtain ⟨c,t,h1,rfl⟩:=T1 q hq;exact ⟨c,_,h1,by decide⟩))
 have o_x:=aA.mk (M1.qT n_x.out (fun q hq=>by obtain ⟨c,t,h1,rfl⟩:=T1 q hq;exact ⟨c,_,h1,by decide⟩))
 have o_s:=aA.mk (M1.qT n_s.out (fun q hq=>by obtain ⟨c,t,h1,rfl⟩:=T1 q hq;exact ⟨c,_,h1,by decide⟩))
 have o_r:=aA.mk (M1.bI n_r.out NIR.out)
 have o_HB:=aA.mk (kL n_HB.out (Nat.le_refl _) M1 (fun q hq=>hq▸Nat.le_of_lt G_i.out))
 clear M1 T1 n_B0 n_x n_s n_r n_i n_HB x4 zk i1 fi hb1 hb2 NIR
 have n_B0:=o_B0
 have n_x:=o_x
 have n_s:=o_s
 have n_r:=o_r
 have n_i:=o_i
 have n_HB:=o_HB
 clear o_B0 o_x o_s o_r o_i o_HB
 generalize wg.setCell ⟨g_i,1,none⟩ (.int .u32 1)=wh at n_B0 n_x n_s n_i n_r n_HB ⊢
 refine (s9 _).mono ?_
 rintro e w5 ⟨rfl,rfl⟩

 go_wp2_with (first|(go_at_call 166;refine (s9 _).mono ?_;rintro e w5 ⟨rfl,rfl⟩)|(go_at_call 159;refine (HA.out _ _ HL.out n_HB.out).mono ?_;rintro e w6 ⟨A,c,rfl,hR,hb⟩;have HV:=aA.mk (Kd.cT hR n_HB.out.size);have m0:=aA.mk (aE n_B0.out hb);have m_x:=aA.mk (aE n_x.out hb);have m_s:=aA.mk (aE n_s.out hb);have m_i:=aA.mk (aE n_i.out hb);have m_r:=aA.mk (aE n_r.out hb);have m_HB:=aA.mk (bA n_HB.out hb);clear hb hR n_B0 n_x n_s n_i n_r n_HB HA;obtain ⟨d0,f0,d1,f1,d2,f2,d3,f3,d4,f4,d5,f5,d6,f6⟩:=fP m_x.out;obtain ⟨p0,q0,p1,q1,p2,q2,p3,q3,p4,q4,p5,q5,p6,q6⟩:=fP m0.out;have ne0:w.heap.size≠g_x:=Nat.ne_of_lt G_x.out;have ne1:g_x≠w.heap.size:=fun e=>ne0 e.symm))
 clear d0 f0 p0 q0 d1 f1 p1 q1 d2 f2 p2 q2 d3 f3 p3 q3 d4 f4 p4 q4 d5 f5 p5 q5 d6 f6 p6 q6
 obtain ⟨WF,hWF,h1,h2,h3⟩:=kX (szs:= [1,(q:Int)]) (xs:=(List.replicate k 0).set 1 1) (r7:=List.replicate n 0) (m:=(ea:Int)) (lo:=lo) (un:=un) m0.out m_x.out G_x.out m_HB.out m_s.out m_i.out (by simpa [bL] using m_r.out) (Nat.le_of_lt G_s.out) (Nat.le_of_lt G_i.out) (Nat.le_of_lt G_r.out) HV.out (by simp) (by have:=HK.out;simp;omega) (by simp;omega)
 simp only [List.length_replicate,List.length_set] at hWF h2 h3
 change bodyPost _ _ _ _ _ (hU (gC w6 g_x _ _ _) w.heap.size _ _ _ _ _ _ _)
 have hWF2:WF=hU (gC w6 g_x (.slice A l.length c) (.int .i64 lo) (.int .i64 un)) w.heap.size (.slice A l.length c) (.int .i64 lo) (.int .i64 un) (.slice (some ⟨g_s,0,none⟩) 2 2) (.slice (some ⟨g_i,0,none⟩) k k) (.int .i64 (ea:Int)) (.slice (some ⟨g_r,0,none⟩) n n):=hWF
 rw [← hWF2]
 clear hWF hWF2
 obtain ⟨r0,r1,r2,r3,r4,r5,r6⟩:=gJ h2
 exact bodyPost_ret (v:= .tuple #[.agg #[.slice A l.length c,.int .i64 lo,.int .i64 un,.slice (some ⟨g_s,0,none⟩) 2 2,.slice (some ⟨g_i,0,none⟩) k k,.int .i64 (ea:Int),.slice (some ⟨g_r,0,none⟩) n n],.int .i64 0]) (by simp [results,Tryz.results111,go_sem, *]) rfl ⟨_,rfl,h1,h3⟩
theorem rA (l:List dA) (lo un:Int) (ha:dZ jL l lo un) (n:Nat) (w:World) (hl:dO w) (n1:1≤n) (n64:n≤64):
  Calls Tryz.prog 107 #[.int .i64 (n:Int)] w fun e w'=>∃ v,e= .returned (.tuple #[v,.int .i64 0])∧Below w.heap.size w w'∧cQ w.heap.size w' v l lo un [1,((n+1:Nat):Int)] (((List.replicate (n+2) 0).set 0 (2*(n:Int))).set (n+1) 1) 0 (List.replicate n 0):=by
 have HA:=aA.mk ha
 have HL:=aA.mk hl
 have e0:decide ((n:Int)<1)=false:=decide_eq_false (by omega)
 have e1:decide (64<(n:Int))=false:=decide_eq_false (by omega)
 obtain ⟨q,hq⟩:∃ q:Nat,q=n+1:=⟨_,rfl⟩
 obtain ⟨k,hk⟩:∃ k:Nat,k=n+2:=⟨_,rfl⟩
 rw [← hk,← hq]
 have hw1:IntKind.i64.wrap ((n:Int)+1)=(q:Int):=cD _ q (by omega) (by omega)
 have hw2:IntKind.i64.wrap ((n:Int)+2)=(k:Int):=cD _ k (by omega) (by omega)
 have hw3:IntKind.i64.wrap (2*(n:Int))=2*(n:Int):=(cD _ (2*n) (by omega) (by omega)).trans (by omega)
 have MI:=aA.mk (fun W:World=>dN (P:=Tryz.prog) 33 22 (.int .u32 0) 4 Tryz.underlying33 (by kernel_rfl) rfl (by decide) k (by omega) W)
 have MR:=aA.mk (fun W:World=>dN (P:=Tryz.prog) 33 22 (.int .u32 0) 4 Tryz.underlying33 (by kernel_rfl) rfl (by decide) n (by omega) W)
 have WD:=Abs.wide
 clear ha hl
 have HK:=aA.mk (⟨hk,hq,n64⟩:k=n+2∧q=n+1∧n≤64)
 clear n1 hk hq
 go_enter Tryz.func107,Tryz.ntmps107
 go_wp2_with fail
 have HJ:=aA.mk (show DJ w (.cells cA 114) (w.alloc (.cells cA 114)).drew from ⟨bG (aD (Below.refl w.heap.size w) _),bF w _⟩)

 obtain ⟨ds,hds⟩:∃ ds:List H8,ds= [(fun _=> .int .i64 (n:Int),[]),(fun _=> .int .i64 (q:Int),[]),(fun gs=> .slice (some ⟨(gs.getD 0 0),0,none⟩) 2 2,[.cells #[.int .i64 1,.int .i64 (q:Int)] 3 (0,0)]),(fun _=> .int .i64 (n:Int),[]),(fun _=> .int .i64 (k:Int),[]),(fun gs=> .slice (some ⟨(gs.getD 0 0),0,none⟩) k k,[.cells (bL k (.int .u32 0)) 22 (0,0)]),(fun _=> .int .i64 (n:Int),[]),(fun gs=> .slice (some ⟨(gs.getD 0 0),0,none⟩) n n,[.cells (bL n (.int .u32 0)) 22 (0,0)]),(fun gs=> .agg #[.slice none 0 0,.int .i64 0,.int .i64 0,.slice (some ⟨(gs.getD 0 0),0,none⟩) 2 2,.slice (some ⟨(gs.getD 1 0),0,none⟩) k k,.int .i64 0,.slice (some ⟨(gs.getD 2 0),0,none⟩) n n],[.cells #[.int .i64 1,.int .i64 (q:Int)] 3 (0,0),.cells (bL k (.int .u32 0)) 22 (0,0),.cells (bL n (.int .u32 0)) 22 (0,0)]),(fun gs=> .pointer (some ⟨(gs.getD 0 0),0,none⟩),[.cells cA 114 (0,0)])]:=⟨_,rfl⟩
 refine hZ (w:=w) (by kernel_rfl) (k:=10) rfl (.cells cA 114 (0,0)) ds (by kernel_rfl) (by kernel_rfl) rfl rfl HJ.out ?ob ?cont
 case ob=>
  refine pK (fun QQ=>?_)
  rename_i aa1
  clear aa1 HA HL HJ e0 e1 HK WD
  refine aW ?_ ?_
  ·refine bZ rfl (by rw [hds];rfl) (fun a' w' hs=>?_)
   have e0:=hs.own 0 (by kernel_rfl) (v:= .int .i64 (n:Int)) rfl
   clear hs hds
   go_simp
  refine aW ?_ ?_
  ·refine bZ rfl (by rw [hds];rfl) (fun a' w' hs=>?_)
   have e12:=hs.val 0 12 (by kernel_rfl) (by kernel_rfl) (v:= .int .i64 (n:Int)) (by rw [hds];rfl)
   clear hs hds
   go_simp
  refine aW ?_ ?_
  ·refine cZ rfl (by rw [hds];rfl) (fun a' w' hs=>?_)
   have e13:=hs.val 1 13 (by kernel_rfl) (by kernel_rfl) (v:= .int .i64 (q:Int)) (by rw [hds];rfl)
   clear hs hds
   go_simp
  refine aW ?_ ?_
  ·refine bZ rfl (by rw [hds];rfl) (fun a' w' hs=>?_)
   have e0:=hs.own 0 (by kernel_rfl) (v:= .int .i64 (n:Int)) rfl
   clear hs hds
   go_simp
  refine aW ?_ ?_
  ·refine bZ rfl (by rw [hds];rfl) (fun a' w' hs=>?_)
   have e15:=hs.val 3 15 (by kernel_rfl) (by kernel_rfl) (v:= .int .i64 (n:Int)) (by rw [hds];rfl)
   clear hs hds
   go_simp
  refine aW ?_ ?_
  ·refine cZ rfl (by rw [hds];rfl) (fun a' w' hs=>?_)
   have e16:=hs.val 4 16 (by kernel_rfl) (by kernel_rfl) (v:= .int .i64 (k:Int)) (by rw [hds];rfl)
   clear hs hds
   have hmk:=MI.out w';go_simp
  refine aW ?_ ?_
  ·refine bZ rfl (by rw [hds];rfl) (fun a' w' hs=>?_)
   have e0:=hs.own 0 (by kernel_rfl) (v:= .int .i64 (n:Int)) rfl
   clear hs hds
   go_simp
  refine aW ?_ ?_
  ·refine cZ rfl (by rw [hds];rfl) (fun a' w' hs=>?_)
   have e18:=hs.val 6 18 (by kernel_rfl) (by kernel_rfl) (v:= .int .i64 (n:Int)) (by rw [hds];rfl)
   clear hs hds
   have hmk:=MR.out w';go_simp
  refine aW ?_ ?_
  ·refine sF rfl (by rw [hds];rfl) (fun a' w' hs=>?_)
   obtain ⟨g14,e14,b14⟩:=hs.D5 2 14 (by kernel_rfl) (by kernel_rfl) (by rw [hds];rfl)
   obtain ⟨g17,e17,b17⟩:=hs.D5 5 17 (by kernel_rfl) (by kernel_rfl) (by rw [hds];rfl)
   obtain ⟨g19,e19,b19⟩:=hs.D5 7 19 (by kernel_rfl) (by kernel_rfl) (by rw [hds];rfl)
   clear hs hds
   obtain ⟨c14,rfl,h14,l14⟩:=b14.one
   obtain ⟨c17,rfl,h17,l17⟩:=b17.one
   obtain ⟨c19,rfl,h19,l19⟩:=b19.one
   refine ⟨[c14,c17,c19],?_,lF.mk3 h14 l14 h17 l17 h19 l19⟩
   dsimp only [List.getD_cons_zero,List.getD_cons_succ] at*
   go_simp
  refine aW ?_ o6
  ·refine cZ rfl (by rw [hds];rfl) (fun a' w' hs=>?_)
   clear hs hds
   kernel_rfl
 intro vs wf hJ hv
 generalize hA:iY _ _ 0 vs=A
 have q0:=hv.val 0 (.int .i64 (n:Int)) (by decide) (by rw [hds];rfl)
 have q1:=hv.val 1 (.int .i64 (q:Int)) (by decide) (by rw [hds];rfl)
 obtain ⟨x2,q2,F2,G2⟩:=hv.one 2 (fun gs=> .slice (some ⟨(gs.getD 0 0),0,none⟩) 2 2) (.cells #[.int .i64 1,.int .i64 (q:Int)] 3 (0,0)) (by decide) (by rw [hds];rfl)
 have q3:=hv.val 3 (.int .i64 (n:Int)) (by decide) (by rw [hds];rfl)
 have q4:=hv.val 4 (.int .i64 (k:Int)) (by decide) (by rw [hds];rfl)
 obtain ⟨x5,q5,F5,G5⟩:=hv.one 5 (fun gs=> .slice (some ⟨(gs.getD 0 0),0,none⟩) k k) (.cells (bL k (.int .u32 0)) 22 (0,0)) (by decide) (by rw [hds];rfl)
 have q6:=hv.val 6 (.int .i64 (n:Int)) (by decide) (by rw [hds];rfl)
 obtain ⟨x7,q7,F7,G7⟩:=hv.one 7 (fun gs=> .slice (some ⟨(gs.getD 0 0),0,none⟩) n n) (.cells (bL n (.int .u32 0)) 22 (0,0)) (by decide) (by rw [hds];rfl)
 obtain ⟨g_s,g_i,g_r,q8,⟨F_s,l_s⟩,⟨F_i,l_i⟩,F_r,l_r⟩:=hv.three 8 (fun gs=> .agg #[.slice none 0 0,.int .i64 0,.int .i64 0,.slice (some ⟨(gs.getD 0 0),0,none⟩) 2 2,.slice (some ⟨(gs.getD 1 0),0,none⟩) k k,.int .i64 0,.slice (some ⟨(gs.getD 2 0),0,none⟩) n n]) (.cells #[.int .i64 1,.int .i64 (q:Int)] 3 (0,0)) (.cells (bL k (.int .u32 0)) 22 (0,0)) (.cells (bL n (.int .u32 0)) 22 (0,0)) (by decide) (by rw [hds];rfl)
 obtain ⟨g_x,q9,F9,G9⟩:=hv.one 9 (fun gs=> .pointer (some ⟨(gs.getD 0 0),0,none⟩)) (.cells cA 114 (0,0)) (by decide) (by rw [hds];rfl)
 clear hv hds
 simp only [List.toList_toArray,List.take_succ_cons,List.take_zero,iY,Act.put,List.setIfInBounds_toArray,List.set_cons_zero,List.set_cons_succ,Nat.reduceAdd,List.getD_cons_zero,List.getD_cons_succ,q0,q1,q2,q3,q4,q5,q6,q7,q8,q9] at hA
 subst hA
 clear q0 q1 q2 q3 q4 q5 q6 q7 q8 q9 F2 G2 F5 G5 F7 G7
 refine wp_store_row 114 (.tmp 4) (.tmp 20) rfl g_x #[.slice none 0 0,.int .i64 0,.int .i64 0,.slice (some ⟨g_s,0,none⟩) 2 2,.slice (some ⟨g_i,0,none⟩) k k,.int .i64 0,.slice (some ⟨g_r,0,none⟩) n n] rfl rfl 114 _ F9 (by kernel_rfl) rfl (by kernel_rfl) ?_
 have ne0:w.heap.size≠g_x:=Nat.ne_of_lt G9
 have n_s:=aA.mk ((setRow_other wf g_x _ #[.slice none 0 0,.int .i64 0,.int .i64 0,.slice (some ⟨g_s,0,none⟩) 2 2,.slice (some ⟨g_i,0,none⟩) k k,.int .i64 0,.slice (some ⟨g_r,0,none⟩) n n] (aK F_s F9 (by decide))).trans F_s)
 have n_i:=aA.mk ((setRow_other wf g_x _ #[.slice none 0 0,.int .i64 0,.int .i64 0,.slice (some ⟨g_s,0,none⟩) 2 2,.slice (some ⟨g_i,0,none⟩) k k,.int .i64 0,.slice (some ⟨g_r,0,none⟩) n n] (aK F_i F9 (by decide))).trans F_i)
 have n_r:=aA.mk ((setRow_other wf g_x _ #[.slice none 0 0,.int .i64 0,.int .i64 0,.slice (some ⟨g_s,0,none⟩) 2 2,.slice (some ⟨g_i,0,none⟩) k k,.int .i64 0,.slice (some ⟨g_r,0,none⟩) n n] (aK F_r F9 (by decide))).trans F_r)
 have n_B0:=aA.mk (show (wf.setRow g_x #[.slice none 0 0,.int .i64 0,.int .i64 0,.slice (some ⟨g_s,0,none⟩) 2 2,.slice (some ⟨g_i,0,none⟩) k k,.int .i64 0,.slice (some ⟨g_r,0,none⟩) n n]).heap[w.heap.size]?=some (.cells #[.slice none 0 0,.int .i64 0,.int .i64 0,.slice none 0 0,.slice none 0 0,.int .i64 0,.slice none 0 0] 114 (0,0)) from (setRow_other wf g_x _ #[.slice none 0 0,.int .i64 0,.int .i64 0,.slice (some ⟨g_s,0,none⟩) 2 2,.slice (some ⟨g_i,0,none⟩) k k,.int .i64 0,.slice (some ⟨g_r,0,none⟩) n n] (Nat.ne_of_lt G9)).trans hJ.at_)
 have n_x:=aA.mk (setRow_heap wf g_x _ #[.slice none 0 0,.int .i64 0,.int .i64 0,.slice (some ⟨g_s,0,none⟩) 2 2,.slice (some ⟨g_i,0,none⟩) k k,.int .i64 0,.slice (some ⟨g_r,0,none⟩) n n] 114 (0,0) F9)
 have n_HB:=aA.mk (below_setRow hJ.below (Nat.le_of_lt G9) #[.slice none 0 0,.int .i64 0,.int .i64 0,.slice (some ⟨g_s,0,none⟩) 2 2,.slice (some ⟨g_i,0,none⟩) k k,.int .i64 0,.slice (some ⟨g_r,0,none⟩) n n])
 have G_s:=aA.mk l_s
 have G_i:=aA.mk l_i
 have G_r:=aA.mk l_r
 have G_x:=aA.mk G9
 clear F_s F_i F_r F9 hJ l_s l_i l_r G9
 generalize wf.setRow g_x #[.slice none 0 0,.int .i64 0,.int .i64 0,.slice (some ⟨g_s,0,none⟩) 2 2,.slice (some ⟨g_i,0,none⟩) k k,.int .i64 0,.slice (some ⟨g_r,0,none⟩) n n]=wg at n_B0 n_x n_s n_i n_r n_HB ⊢
 change Exit.then _ _ _ _ _
 have x4:=(aC n_x.out 4).trans rfl
 have zk:∀ j:Nat,j<k→(bL k (.int .u32 0))[j]?=some (.int .u32 0):=fun j hj=>by simp [bL,hj]
 have i0:=(aC n_i.out 0).trans (zk 0 (by have:=HK.out;omega))
 have iq:=(aC n_i.out q).trans (zk q (by have:=HK.out;omega))
 have f0:=aG n_i.out 0
 have fq:=aG n_i.out q
 have hb0:decide ((0:Int)<(k:Int))=true:=decide_eq_true (by have:=HK.out;omega)
 have hb1:decide ((q:Int)<(k:Int))=true:=decide_eq_true (by have:=HK.out;omega)
 have hb2:0<k:=by have:=HK.out;omega
 have hb3:q<k:=by have:=HK.out;omega
 have hb4:(q:Int)<(k:Int):=by omega
 have hb5:(0:Int)<(k:Int):=by omega
 have hu:IntKind.u32.wrap (2*(n:Int))=2*(n:Int):=IntWalk.u32_in _ (by have:=HK.out;omega)
 have hz1:¬ 0=q:=by have:=HK.out;omega
 have hz2:¬ q=0:=by have:=HK.out;omega
 have hgx:¬ g_i=g_x:=fun e=>aK n_i.out n_x.out (by decide) e
 have hgx2:¬ g_x=g_i:=fun e=>hgx e.symm
 have NIR:=aA.mk (show ¬ g_r=g_i from fun e=>by
  have h1:=n_r.out
  rw [e,n_i.out] at h1
  have h3:=congrArg (fun o=>match o with|some (Obj.cells c _ _)=>c.size|_=>0) h1
  simp [bL] at h3
  have h4:=HK.out
  omega)
 go_wp2_with fail
 go_region
 all_goals
  have M1:Mod (fun y=>y=g_i) wg (((wg.setCell ⟨g_i,0,none⟩ (.int .u32 (2*(n:Int)))).setCell ⟨g_i,q,none⟩ (.int .u32 1)).drew):=(Mod.setCell (S:=fun y=>y=g_i) (Mod.setCell (S:=fun y=>y=g_i) (Mod.refl _ wg) (p:=⟨g_i,0,none⟩) rfl _) (p:=⟨g_i,q,none⟩) rfl _).drew
  have o_i:=aA.mk (show (((wg.setCell ⟨g_i,0,none⟩ (.int .u32 (2*(n:Int)))).setCell ⟨g_i,q,none⟩ (.int .u32 1)).drew).heap[g_i]?=some (.cells ((((List.replicate k 0).set 0 (2*(n:Int))).set q 1).map (Value.int .u32)).toArray 22 (0,0)) from (bE (bE n_i.out 0 _) q _).trans (by rw [rW,rJ,rJ]))
  clear x4 zk i0 iq f0 fq hb0 hb1 hb2 hb3 hb4 hb5 hu hz1 hz2 hgx hgx2
  have T1:∀ q,q=g_i→∃ c t,wg.heap[q]?=some (.cells c t (0,0))∧t=22:=fun q hq=>⟨_,_,hq▸n_i.out,rfl⟩
  have o_B0:=aA.mk (M1.qT n_B0.out (fun q hq=>by obtain ⟨c,t,h1,rfl⟩:=T1 q hq;exact ⟨c,_,h1,by decide⟩))
  have o_x:=aA.mk (M1.qT n_x.out (fun q hq=>by obtain ⟨c,t,h1,rfl⟩:=T1 q hq;exact ⟨c,_,h1,by decide⟩))
  have o_s:=aA.mk (M1.qT n_s.out (fun q hq=>by obtain ⟨c,t,h1,rfl⟩:=T1 q hq;exact ⟨c,_,h1,by decide⟩))
  have o_r:=aA.mk (M1.bI n_r.out NIR.out)
  have o_HB:=aA.mk (kL n_HB.out (Nat.le_refl _) M1 (fun q hq=>hq▸Nat.le_of_lt G_i.out))
  clear M1 T1 n_B0 n_x n_s n_r n_i n_HB NIR
  have n_B0:=o_B0
  have n_x:=o_x
  have n_s:=o_s
  have n_r:=o_r
  have n_i:=o_i
  have n_HB:=o_HB
  clear o_B0 o_x o_s o_r o_i o_HB
  generalize ((wg.setCell ⟨g_i,0,none⟩ (.int .u32 (2*(n:Int)))).setCell ⟨g_i,q,none⟩ (.int .u32 1)).drew=wh at n_B0 n_x n_s n_i n_r n_HB ⊢
  go_wp2_with (first|(go_at_call 162;refine (BQ _).mono ?_;rintro e w5 ⟨rfl,rfl⟩)|(go_at_call 159;refine (HA.out _ _ HL.out n_HB.out).mono ?_;rintro e w6 ⟨A,c,rfl,hR,hb⟩;have HV:=aA.mk (Kd.cT hR n_HB.out.size);have m0:=aA.mk (aE n_B0.out hb);have m_x:=aA.mk (aE n_x.out hb);have m_s:=aA.mk (aE n_s.out hb);have m_i:=aA.mk (aE n_i.out hb);have m_r:=aA.mk (aE n_r.out hb);have m_HB:=aA.mk (bA n_HB.out hb);clear hb hR n_B0 n_x n_s n_i n_r n_HB HA;obtain ⟨d0,f0,d1,f1,d2,f2,d3,f3,d4,f4,d5,f5,d6,f6⟩:=fP m_x.out;obtain ⟨p0,q0,p1,q1,p2,q2,p3,q3,p4,q4,p5,q5,p6,q6⟩:=fP m0.out;have ne0:w.heap.size≠g_x:=Nat.ne_of_lt G_x.out;have ne1:g_x≠w.heap.size:=fun e=>ne0 e.symm))
  clear d0 f0 p0 q0 d1 f1 p1 q1 d2 f2 p2 q2 d3 f3 p3 q3 d4 f4 p4 q4 d5 f5 p5 q5 d6 f6 p6 q6
  obtain ⟨WF,hWF,h1,h2,h3⟩:=kX (szs:= [1,(q:Int)]) (xs:=((List.replicate k 0).set 0 (2*(n:Int))).set q 1) (r7:=List.replicate n 0) (m:=0) (lo:=lo) (un:=un) m0.out m_x.out G_x.out m_HB.out m_s.out m_i.out (by simpa [bL] using m_r.out) (Nat.le_of_lt G_s.out) (Nat.le_of_lt G_i.out) (Nat.le_of_lt G_r.out) HV.out (by simp) (by have:=HK.out;simp;omega) (by simp;omega)
  simp only [List.length_replicate,List.length_set] at hWF h2 h3
  change bodyPost _ _ _ _ _ (hU (gC w6 g_x _ _ _) w.heap.size _ _ _ _ _ _ _)
  have hWF2:WF=hU (gC w6 g_x (.slice A l.length c) (.int .i64 lo) (.int .i64 un)) w.heap.size (.slice A l.length c) (.int .i64 lo) (.int .i64 un) (.slice (some ⟨g_s,0,none⟩) 2 2) (.slice (some ⟨g_i,0,none⟩) k k) (.int .i64 0) (.slice (some ⟨g_r,0,none⟩) n n):=hWF
  rw [← hWF2]
  clear hWF hWF2
  obtain ⟨r0,r1,r2,r3,r4,r5,r6⟩:=gJ h2
  exact bodyPost_ret (v:= .tuple #[.agg #[.slice A l.length c,.int .i64 lo,.int .i64 un,.slice (some ⟨g_s,0,none⟩) 2 2,.slice (some ⟨g_i,0,none⟩) k k,.int .i64 0,.slice (some ⟨g_r,0,none⟩) n n],.int .i64 0]) (by simp [results,Tryz.results107,go_sem, *]) rfl ⟨_,rfl,h1,h3⟩
end Go.Proofs.YtjopodnlffaogaaGreatDoor.Tp
end
section
namespace Go.Proofs.YtjopodnlffaogaaGreatDoor.Abs
open Go.RowKit
mutual
/-- A value, its blocks named anew. -/
def XZ (f:Nat→Nat):Value→Value
 | .pointer (some ⟨b,o,none⟩)=> .pointer (some ⟨f b,o,none⟩)
 | .slice (some ⟨b,o,none⟩) n k=> .slice (some ⟨f b,o,none⟩) n k
 | .map (some b)=> .map (some (f b))
 | .chan (some b)=> .chan (some (f b))
 | .func fn ⟨a⟩ ⟨c⟩=> .func fn ⟨IX f a⟩ ⟨IX f c⟩
 | .iface t v=> .iface t (XZ f v)
 | .agg ⟨c⟩=> .agg ⟨IX f c⟩
 | .tuple ⟨c⟩=> .tuple ⟨IX f c⟩
 |v=>v
def IX (f:Nat→Nat):List Value→List Value
 | []=> []
 |v :: l=>XZ f v :: IX f l
end
def SA (f:Nat→Nat):AO→AO
 | .row cs e m=> .row (IX f cs) e m
 | .obj o=> .obj o
mutual
theorem uX (f:Nat→Nat):∀ {v:Value},flat v=true→XZ f v=v
 | .pointer none,_=>rfl
 | .pointer (some a),h=>by simp [flat] at h
 | .slice none _ _,_=>rfl
 | .slice (some a) _ _,h=>by simp [flat] at h
 | .map none,_=>rfl
 | .map (some b),h=>by simp [flat] at h
 | .chan none,_=>rfl
 | .chan (some b),h=>by simp [flat] at h
 | .func fn ⟨a⟩ ⟨c⟩,h=>by
  simp only [flat,rF,Bool.and_eq_true] at h
  rw [XZ,oY f h.1.2,oY f h.2]
 | .iface t v,h=>by
  simp only [flat] at h
  rw [XZ,uX f h]
 | .agg ⟨c⟩,h=>by
  simp only [flat,rF] at h
  rw [XZ,oY f h]
 | .tuple ⟨c⟩,h=>by
  simp only [flat,rF] at h
  rw [XZ,oY f h]
 | .bool _,_=>rfl
 | .int _ _,_=>rfl
 | .float _ _,_=>rfl
 | .complex _ _ _,_=>rfl
 | .string _,_=>rfl
 | .nilFunc,_=>rfl
 | .nilIface,_=>rfl
theorem oY (f:Nat→Nat):∀ {l:List Value},fC l=true→IX f l=l
 | [],_=>rfl
 |v :: l,h=>by
  simp only [fC,Bool.and_eq_true] at h
  rw [IX,uX f h.1,oY f h.2]
end
def Goes (f:Nat→Nat) (σ0 σ:Rn):Prop:=∀ b c,σ0.bI b=some c→σ.bI (f b)=some c∧σ.cap (f b)=σ0.cap b
mutual
theorem VR.sh {f:Nat→Nat} {σ0 σ:Rn} (H:Goes f σ0 σ) {v w:Value} :VR σ0 v w→VR σ (XZ f v) w
 | .flat h=>by rw [uX f h];exact .flat h
 | .ptr h=> .ptr (H _ _ h).1
 | .fU=> .fU
 | .slice (b:=b) (k:=k) h hn=>by
  have he:cJ σ (f b) k=cJ σ0 b k:=by unfold cJ;rw [(H _ _ h).2]
  rw [← he] at hn ⊢
  exact .slice (H _ _ h).1 hn
 | .map h=> .map (H _ _ h).1
 | .chan h=> .chan (H _ _ h).1
 | .func (f:=⟨a⟩) (c:=⟨c⟩) hf hc=> .func (f:=⟨IX f a⟩) (c:=⟨IX f c⟩) (LR.sh H hf) (LR.sh H hc)
 | .iface h=> .iface (VR.sh H h)
 | .agg (a:=⟨c⟩) h=> .agg (a:=⟨IX f c⟩) (LR.sh H h)
 | .tuple (a:=⟨c⟩) h=> .tuple (a:=⟨IX f c⟩) (LR.sh H h)
theorem LR.sh {f:Nat→Nat} {σ0 σ:Rn} (H:Goes f σ0 σ) {l m:List Value} :LR σ0 l m→LR σ (IX f l) m
 | .nil=> .nil
 | .cons h ht=> .cons (VR.sh H h) (LR.sh H ht)
end
theorem xU (f:Nat→Nat):∀ l:List Value,(IX f l).length=l.length
 | []=>rfl
 |v :: l=>by simp [IX,xU f l]
theorem OR.sh {P:Program} {f:Nat→Nat} {σ0 σ:Rn} (H:Goes f σ0 σ) {b c:Nat} (hb:σ0.bI b=Option.some c) {o:AO} {x:Option Obj} (h:OR P σ0 b o x):OR P σ (f b) (SA f o) x:=by
 cases o with
 |row cs e m=>
  obtain ⟨C,fr,h1,⟨p,r,h2,h2'⟩,h3,h4,h5⟩:=h
  exact ⟨C,fr,h1,⟨p,r,h2,LR.sh H h2'⟩,h3,fun hm=>by rw [(H _ _ hb).2];exact h4 hm,fun hm=>by rw [xU];exact h5 hm⟩
 |obj o=>exact h
def gM (m:Nat):List (Nat × AO)→Option AO
 | []=>none
 |r :: l=>if m=r.1 then some r.2 else gM m l
noncomputable def xF (a:A) (l:List (Nat × AO)):A:=l.foldr (fun r b=>b.put r.1 (some r.2)) a
theorem qK (a:A) (m:Nat):∀ {l:List (Nat × AO)},(∀ r∈l,r.1+1<1099511627776)→(xF a l).get m=match gM m l with
  |some o=>some o
  |none=>a.get m
 | [],_=>rfl
 |r :: l,h=>by
  have h2:(xF a (r :: l))=(xF a l).put r.1 (some r.2):=rfl
  rw [h2,get_put _ _ _ _ (h r List.mem_cons_self),qK a m (fun r hr=>h r (List.mem_cons_of_mem _ hr))]
  rw [gM]
  by_cases hm:m=r.1
  ·rw [if_pos hm,if_pos hm]
  ·rw [if_neg hm,if_neg hm]
def fE (vs:iR):List (Nat × AO):=vs.map fun r=>(r.1,AO.row r.2.1 r.2.2 2)
theorem EA:∀ (vs:iR),jU vs=xF ⟨13,.nil⟩ (fE vs)
 | []=>rfl
 |r :: vs=>by
  show (jU vs).put _ _=(xF ⟨13,.nil⟩ (fE vs)).put _ _
  rw [EA vs]
theorem mN (m:Nat):∀ (l k:List (Nat × AO)),gM m (l++k)=match gM m l with
  |some o=>some o
  |none=>gM m k
 | [],k=>rfl
 |r :: l,k=>by
  rw [List.cons_append,gM,gM]
  by_cases hm:m=r.1
  ·rw [if_pos hm,if_pos hm]
  ·rw [if_neg hm,if_neg hm,mN m l k]
theorem AA {m:Nat} {o:AO} :∀ {l:List (Nat × AO)},gM m l=some o→∃ r∈l,r.1=m
 | [],h=>by cases h
 |r :: l,h=>by
  unfold gM at h
  split at h
  ·rename_i hm
   exact ⟨r,List.mem_cons_self,hm.symm⟩
  ·obtain ⟨q,hq,h2⟩:=AA h
   exact ⟨q,List.mem_cons_of_mem _ hq,h2⟩
def N1 (d b:Nat):Nat:=bif Nat.blt b 13 then b else b+d
theorem shN_lt {d b:Nat} (h:b<13):N1 d b=b:=by
 have:Nat.blt b 13=true:=by rw [Nat.blt_eq];exact h
 rw [N1,this];rfl
theorem vI {d b:Nat} (h:13≤b):N1 d b=b+d:=by
 have:Nat.blt b 13=false:=by
  cases hq:Nat.blt b 13 with
  |false=>rfl
  |true=>rw [Nat.blt_eq] at hq;omega
 rw [N1,this];rfl
noncomputable def PZ (d:Nat) (l:List (Nat × AO)):List (Nat × AO):=List.rec (motive:=fun _=>List (Nat × AO)) [] (fun r _ k=>(N1 d r.1,SA (N1 d) r.2) :: k) l
theorem GG (d:Nat) (r:Nat × AO) (l:List (Nat × AO)):PZ d (r :: l)=(N1 d r.1,SA (N1 d) r.2) :: PZ d l:=rfl
theorem FU {d m:Nat} {o:AO} :∀ {l:List (Nat × AO)},(∀ r∈l,13≤r.1)→gM m (PZ d l)=some o→∃ k o',13≤k∧m=k+d∧gM k l=some o'∧o=SA (N1 d) o'
 | [],_,h=>by cases h
 |r :: l,hl,h=>by
  rw [GG] at h
  have hr:=hl r List.mem_cons_self
  unfold gM at h
  rw [vI hr] at h
  split at h
  ·rename_i hm
   cases h
   exact ⟨r.1,r.2,hr,hm,by rw [gM,if_pos rfl],rfl⟩
  ·rename_i hm
   obtain ⟨k,o',h1,h2,h3,h4⟩:=FU (fun r hr=>hl r (List.mem_cons_of_mem _ hr)) h
   exact ⟨k,o',h1,h2,by rw [gM,if_neg (by omega)];exact h3,h4⟩
theorem LM {d:Nat} {q:Nat × AO} :∀ {l:List (Nat × AO)},q∈PZ d l→∃ r∈l,q.1=N1 d r.1
 | [],h=>by cases h
 |r :: l,h=>by
  rw [GG] at h
  rcases List.mem_cons.1 h with rfl|h
  ·exact ⟨r,List.mem_cons_self,rfl⟩
  ·obtain ⟨r',h1,h2⟩:=LM h
   exact ⟨r',List.mem_cons_of_mem _ h1,h2⟩
theorem mI.sub {f:FuncId} {args:List Value} {a a' b:A} {v:Value} (h:mI f args a v a') (hs:Sub a' b):mI f args a v b:=by
 intro ρ w cargs h1 h2 h3 h4
 refine (h ρ w cargs h1 h2 h3 h4).mono ?_
 rintro e w' ⟨cv,σ,rfl,k1,k2,k3,k4⟩
 have hrel:Rel Tryz.prog σ b w':=⟨fun n o ho=>k2.rel.obj n o (hs.get n o ho),fun n m k hn1 hn2=>k2.rel.inj n m k (hs.ne hn1) (hs.ne hn2)⟩
 exact ⟨cv,σ,rfl,k1,⟨k2.ext,hrel,k2.md,fun k ⟨n,o,q1,q2⟩=>k2.own k ⟨n,o,hs.get n o q1,q2⟩,fun k ⟨n,o,q1,q2⟩=>k2.names k ⟨n,o,hs.get n o q1,q2⟩⟩,fun m hm=>k3 m (Nat.le_trans hs.next hm),Nat.le_trans k4 hs.next⟩
noncomputable def relI (vs:iR) (f:FuncId) (args:List Value) (v:Value) (n:Nat) (l:List (Nat × AO)):Callee:=fun g xs a=>
 match Nat.beq g f with
 |true=>match tV xs args with
  |true=>match U1 vs a&&Nat.ble 13 a.next&&Nat.ble (a.next+n) 1000000 with
   |true=>some (XZ (N1 (a.next - 13)) v,⟨a.next+(n - 13),(xF a (PZ (a.next - 13) l)).t⟩)
   |false=>none
  |false=>none
 |false=>none
def YR (n:Nat) (l:List (Nat × AO)):Bool:=l.all fun r=>Nat.ble 13 r.1&&Nat.blt r.1 n
theorem rel_ok {vs:iR} (hv:jW vs=true) {f:FuncId} {args:List Value} {v:Value} {a':A} {n:Nat} {l:List (Nat × AO)} (hok:mI f args (jU vs) v a') (hfa:fC args=true) (hsub:sW a' n (fE vs++l)=true) (hnames:YR n l=true) (hn13:13≤n):
  bV Tryz.prog 12 (relI vs f args v n l):=by
 intro g xs a u a2 hq ρ w cargs hR hnw hg hl'
 unfold relI at hq
 split at hq
 ·rename_i hgf
  have hgf:=Nat.eq_of_beq_eq_true hgf
  subst hgf
  split at hq
  ·rename_i hxs
   have hxs:=pE hxs
   subst hxs
   split at hq
   ·rename_i hc
    simp only [Bool.and_eq_true] at hc
    obtain ⟨⟨c1,c2⟩,c3⟩:=hc
    have c2:=Nat.le_of_ble_eq_true c2
    have c3:=Nat.le_of_ble_eq_true c3
    cases hq
    have he:cargs=xs.toArray:=Array.toList_inj.1 (by simpa using hl'.bW hfa)
    subst he
    have hs':Sub a' (CC n (fE vs++l)):=wA hsub
    have hok2:=hok.sub hs'
    have hlm:∀ r∈l,13≤r.1∧r.1<n:=fun r hr=>by
     have:=List.all_eq_true.1 hnames r hr
     simp only [Bool.and_eq_true,Nat.blt_eq] at this
     exact ⟨Nat.le_of_ble_eq_true this.1,this.2⟩
    have hvr:∀ r∈fE vs,r.1<12:=fun r hr=>by
     obtain ⟨q,hq,rfl⟩:=List.mem_map.1 hr
     have:=List.all_eq_true.1 hv q hq
     simp only [Bool.and_eq_true,Nat.blt_eq] at this
     exact this.2
    obtain ⟨d,hd⟩:∃ d,d=a.next - 13:=⟨_,rfl⟩
    rw [← hd]
    have hnew:=u9 hR hv c1
    refine (hok2 _ w xs.toArray hnew (fun b hb=>?_) (fun g hgl=>?_) (LR.flat hfa)).mono ?_
    ·rw [oN] at hb
     show (if b<13 then ρ.bI b else none)=none
     rw [if_neg (by omega)]
    ·show (if g<13 then ρ.bI g else none)=some g
     rw [if_pos (by omega)]
     exact hg g hgl
    rintro e w' ⟨cv,σ0,rfl,hv2,hs,hn0,hle⟩
    rw [xT] at hn0
    have ext0:∀ b,b<13→σ0.bI b=ρ.bI b∧σ0.cap b=ρ.cap b:=fun b hb=>by
     have:=hs.ext b (by rw [oN];omega)
     refine ⟨this.1.trans ?_,this.2⟩
     show (if b<13 then ρ.bI b else none)=ρ.bI b
     rw [if_pos hb]
    obtain ⟨σ,hσ⟩:∃ σ:Rn,σ=⟨fun b=>if b<a.next then ρ.bI b else σ0.bI (b - a.next+13),fun b=>if b<a.next then ρ.cap b else σ0.cap (b - a.next+13)⟩:=⟨_,rfl⟩
    have sold:∀ b,b<a.next→σ.bI b=ρ.bI b∧σ.cap b=ρ.cap b:=fun b hb=>by rw [hσ];simp [hb]
    have snew:∀ b,13≤b→σ.bI (b+d)=σ0.bI b∧σ.cap (b+d)=σ0.cap b:=fun b hb=>by
     have e1:¬ b+d<a.next:=by omega
     have e2:b+d - a.next+13=b:=by omega
     rw [hσ];simp [e1,e2]
    have H:Abs.Goes (N1 d) σ0 σ:=fun b c hb=>by
     by_cases hlt:b<13
     ·rw [shN_lt hlt,(sold b (by omega)).1,(sold b (by omega)).2,← (ext0 b hlt).1,← (ext0 b hlt).2]
      exact ⟨hb,rfl⟩
     ·rw [vI (by omega),(snew b (by omega)).1,(snew b (by omega)).2]
      exact ⟨hb,rfl⟩
    have hle':ρ.le σ:=fun b c hb=>by
     have hlt:b<a.next:=by
      rcases Nat.lt_or_ge b a.next with h|h
      ·exact h
      ·rw [hnw b h] at hb;cases hb
     exact ⟨(sold b hlt).1.trans hb,(sold b hlt).2⟩
    -- the heaps' names
    have g1:∀ m,(CC n (fE vs++l)).get m=match gM m (fE vs++l) with
      |some o=>some o
      |none=>none:=fun m=>qK ⟨n,.nil⟩ m (fun r hr=>by
     rcases List.mem_append.1 hr with hr|hr
     ·have:=hvr r hr;omega
     ·have:=hlm r hr;omega)
    have gl:∀ k o',13≤k→gM k l=some o'→(CC n (fE vs++l)).get k=some o':=fun k o' hk ho=>by
     rw [g1,mN]
     cases hq:gM k (fE vs) with
     |none=>simp only [ho]
     |some o2=>
      obtain ⟨r,hr,h2⟩:=AA hq
      have:=hvr r hr
      omega
    have gv:∀ b0 o0,(jU vs).get b0=some o0→(CC n (fE vs++l)).get b0≠none:=fun b0 o0 hb=>by
     rw [EA,qK _ _ (fun r hr=>by have:=hvr r hr;omega)] at hb
     rw [g1,mN]
     cases hq:gM b0 (fE vs) with
     |none=>rw [hq] at hb;cases hb
     |some o2=>simp
    have g2:∀ m,(xF a (PZ d l)).get m=match gM m (PZ d l) with
      |some o=>some o
      |none=>a.get m:=fun m=>qK a m (fun q hq=>by
     obtain ⟨r,hr,h2⟩:=LM hq
     have:=hlm r hr
     rw [h2,vI this.1]
     omega)
    have cas:∀ m o,(xF a (PZ d l)).get m=some o→(∃ k o',13≤k∧m=k+d∧(CC n (fE vs++l)).get k=some o'∧o=SA (N1 d) o')∨(a.get m=some o):=fun m o ho=>by
     rw [g2] at ho
     cases hq:gM m (PZ d l) with
     |none=>rw [hq] at ho;exact .inr ho
     |some o2=>
      rw [hq] at ho
      cases ho
      obtain ⟨k,o',h1,h2,h3,h4⟩:=FU (fun r hr=>(hlm r hr).1) hq
      exact .inl ⟨k,o',h1,h2,gl k o' h1 h3,h4⟩
    have hdead:∀ c,¬ Live ⟨fun b=>if b<13 then ρ.bI b else none,ρ.cap⟩ (jU vs) c:=fun c ⟨b,o,hb,hw,_⟩=>by
     obtain ⟨cs,e,rfl,_⟩:=kA hv hb
     exact hw rfl
    have XA:∀ c,c<w.heap.size→w'.heap[c]?=w.heap[c]?:=fun c hc=>hs.md.block c hc (hdead c)
    have oldlt:∀ m,a.get m≠none→m<a.next:=fun m hm=>by
     cases ho:a.get m with
     |none=>exact absurd ho hm
     |some o=>
      obtain ⟨c,h1,_⟩:=hR.obj m o ho
      rcases Nat.lt_or_ge m a.next with h|h
      ·exact h
      ·rw [hnw m h] at h1;cases h1
    -- a new name's block is new
    have fresh':∀ k o' c,13≤k→(CC n (fE vs++l)).get k=some o'→σ0.bI k=some c→w.heap.size≤c:=fun k o' c hk ho hb=>by
     rcases hs.names c ⟨k,o',ho,trivial,hb⟩ with h|h
     ·obtain ⟨b0,o0,q1,_,q2⟩:=h
      have hlt:b0<13:=by
       rcases Nat.lt_or_ge b0 13 with h|h
       ·exact h
       ·have q3:(if b0<13 then ρ.bI b0 else none)=some c:=q2
        rw [if_neg (by omega)] at q3;cases q3
      have q3:σ0.bI b0=some c:=by
       rw [(ext0 b0 hlt).1]
       have q4:(if b0<13 then ρ.bI b0 else none)=some c:=q2
       rw [if_pos hlt] at q4
       exact q4
      have:=hs.rel.inj k b0 c (by rw [ho];simp) (gv b0 o0 q1) hb q3
      omega
     ·exact h
    have hrel:Rel Tryz.prog σ ⟨a.next+(n - 13),(xF a (PZ d l)).t⟩ w':=by
     refine ⟨fun m o ho=>?_,fun m m' c h1 h2 h3 h4=>?_⟩
     ·rcases cas m o ho with ⟨k,o',k1,rfl,k2,rfl⟩|ho2
      ·obtain ⟨c,q1,q2⟩:=hs.rel.obj k o' k2
       have:=H k c q1
       rw [vI k1] at this
       refine ⟨c,this.1,?_⟩
       have q3:=OR.sh H q1 q2
       rw [vI k1] at q3
       exact q3
      ·obtain ⟨c,q1,q2⟩:=hR.obj m o ho2
       have hlt:=oldlt m (by rw [ho2];simp)
       refine ⟨c,(sold m hlt).1.trans q1,?_⟩
       rw [XA c (hR.lt (by rw [ho2];simp) q1)]
       exact OR.mono hle' (sold m hlt).2 q2
     ·cases e1:(xF a (PZ d l)).get m with
      |none=>exact absurd e1 h1
      |some o=>
       cases e2:(xF a (PZ d l)).get m' with
       |none=>exact absurd e2 h2
       |some o2=>
        rcases cas m o e1 with ⟨k,o',k1,rfl,k2,rfl⟩|ho
        ·rw [(snew k k1).1] at h3
         rcases cas m' o2 e2 with ⟨k',o2',k1',rfl,k2',rfl⟩|ho2
         ·rw [(snew k' k1').1] at h4
          have:=hs.rel.inj k k' c (by rw [k2];simp) (by rw [k2'];simp) h3 h4
          omega
         ·have hlt:=oldlt m' (by rw [ho2];simp)
          rw [(sold m' hlt).1] at h4
          have q1:=hR.lt (by rw [ho2];simp) h4
          have q2:=fresh' k o' c k1 k2 h3
          omega
        ·have hlt:=oldlt m (by rw [ho];simp)
         rw [(sold m hlt).1] at h3
         rcases cas m' o2 e2 with ⟨k',o2',k1',rfl,k2',rfl⟩|ho2
         ·rw [(snew k' k1').1] at h4
          have q1:=hR.lt (by rw [ho];simp) h3
          have q2:=fresh' k' o2' c k1' k2' h4
          omega
         ·have hlt2:=oldlt m' (by rw [ho2];simp)
          rw [(sold m' hlt2).1] at h4
          exact hR.inj m m' c (by rw [ho];simp) (by rw [ho2];simp) h3 h4
    refine ⟨cv,σ,rfl,VR.sh H hv2,⟨fun b hb=>sold b (by omega),hrel,⟨hs.md.os,hs.md.tape,hs.md.output,hs.md.size,fun i hi _=>XA i hi⟩,?_,?_⟩,?_,Nat.le_add_right _ _⟩
    ·rintro c ⟨m,o,h1,h2,h3⟩
     rcases cas m o h1 with ⟨k,o',k1,rfl,k2,rfl⟩|ho
     ·rw [(snew k k1).1] at h3
      exact .inr (fresh' k o' c k1 k2 h3)
     ·rw [(sold m (oldlt m (by rw [ho];simp))).1] at h3
      exact .inl ⟨m,o,ho,h2,h3⟩
    ·rintro c ⟨m,o,h1,h2,h3⟩
     rcases cas m o h1 with ⟨k,o',k1,rfl,k2,rfl⟩|ho
     ·rw [(snew k k1).1] at h3
      exact .inr (fresh' k o' c k1 k2 h3)
     ·rw [(sold m (oldlt m (by rw [ho];simp))).1] at h3
      exact .inl ⟨m,o,ho,trivial,h3⟩
    ·intro b hb
     have hb':a.next+(n - 13)≤b:=hb
     have:=(snew (b - d) (by omega)).1
     rw [show b - d+d=b by omega] at this
     rw [this]
     exact hn0 _ (by omega)
   ·cases hq
  ·cases hq
 ·cases hq
theorem EM {vs:iR} (hok:jW vs=true) {f:FuncId} {args:List Value} {v:Value} {a':A} (h:mI f args (jU vs) v a') (hfa:fC args=true) (hfv:flat v=true):tJ Tryz.prog vs f args v:=by
 intro ρ a w hR hg hv
 have hR0:=u9 hR hok hv
 refine (h _ w args.toArray hR0 (fun b hb=>?_) (fun g hgl=>?_) (LR.flat hfa)).mono ?_
 ·rw [oN] at hb
  show (if b<13 then ρ.bI b else none)=none
  rw [if_neg (by omega)]
 ·show (if g<13 then ρ.bI g else none)=some g
  rw [if_pos (by omega)]
  exact hg g hgl
 ·rintro e w' ⟨cv,σ,rfl,hv2,hs,_⟩
  refine ⟨by rw [hv2.bW hfv],hs.md.os,hs.md.tape,hs.md.output,hs.md.size,fun i hi _=>hs.md.block i hi (fun hl=>?_)⟩
  obtain ⟨b,o,hb,hw,_⟩:=hl
  obtain ⟨cs,e,rfl,_⟩:=kA hok hb
  exact hw rfl
end Go.Proofs.YtjopodnlffaogaaGreatDoor.Abs
end
