/- A part of the proof of TopSame: WWords, WLast, WMore, TpWords, TpSeven, TpAbs16, WTab, TpRing, TpCell, TpAbs17, TpRange, Shelf, TpLines1, TpClone. -/
import Derived.Test.YtjopodnlffaogaaGreatDoorSA0a
import Derived.Deep.Draws
import Derived.Deep.AppendLies
import Derived.Maps.AppendAt
import Derived.OwnWalk
import Derived.Laws.BytesArg
import Derived.Laws.MakeOwn
import Derived.Laws.OwnMore
import Derived.Deep.OwnRows
import Derived.Lib.ConvBytes
import Derived.Laws.Slices
import Derived.WalkKit
import Derived.RowKit3
import Derived.Deep.LoopGhost
import Derived.Deep.QuietTactic
import Derived.BigQuiet
import Derived.WideLaws
import Derived.Deep.DeepCutAuto
import Derived.Deep.CutBlock
import Derived.Deep.RegionHeld3
import Derived.Laws.Rows
import Derived.Lib.AppendStr
import Derived.ArgAppend
import Derived.Laws.IdiomCopy
import Derived.RowKit
import Derived.Laws.BitsLemmas
import Derived.LoopN
import Derived.Test.YtjopodnlffaogaaGreatDoorProg
import Derived.Laws.StructEq
import Derived.Laws.LoneSync
import Derived.Lib.Builder
import Derived.RangeFuncNested
import Derived.RangeFuncCalls
import Derived.RangeFuncBound
import Derived.RangeFuncLeaves
import Derived.Shelf.Small.Strs
import Derived.Shelf.Strings.Builder1
import Derived.Shelf.LaysM
import Derived.Shelf.Strconv.Itoa3
import Derived.Shelf.Strings.Replace
import Derived.OwnWalkIn
import Derived.TacticsInMore
import Derived.LoopNIn
import Derived.LoopIn
import Derived.Shelf.RegionOpen
import Derived.Shelf.Abstract
import Derived.WalkSpells
set_option linter.unusedVariables false
set_option linter.unusedSimpArgs false
set_option maxRecDepth 100000
set_option maxHeartbeats 4000000
namespace Go.Proofs.YtjopodnlffaogaaGreatDoor.PTopConfig
end Go.Proofs.YtjopodnlffaogaaGreatDoor.PTopConfig
section
namespace Go.Proofs.YtjopodnlffaogaaGreatDoorW.PrintWords
open Go.RowKit
structure aA (p:Prop):Prop where mk :: (out:p)
structure bS (w w':World):Prop where mk :: (out:∃ n,w'=w.drewN n)
theorem bS.refl (w:World):bS w w:=⟨⟨0,rfl⟩⟩
theorem bS.step {w w':World} (h:bS w w') (n:Nat):bS w (w'.drewN n):=by
 obtain ⟨m,rfl⟩:=h
 exact ⟨⟨m+n,World.drewN_drewN ..⟩⟩
theorem bS.below {w w':World} (h:bS w w'):Below w.heap.size w w':=by
 obtain ⟨n,rfl⟩:=h
 induction n with
 |zero=>exact Below.refl _ _
 |succ n ih=>rw [← World.drew_drewN];exact ih.drew
def rd (xs:List Int) (i:Int):Int:=xs.getD i.toNat 0
theorem aD {w W:World} (h:Below w.heap.size w W) (o:Obj):Below w.heap.size w (W.alloc o):=h.alloc h.size o
theorem bG {B:Nat} {w W:World} (h:Below B w W):Below B w W.drew:=⟨h.os,h.tape,h.output,h.size,h.block⟩
theorem aH {B:Nat} {w W:World} (h:Below B w W) (n:Nat):Below B w (W.drewN n):=⟨h.os,h.tape,h.output,h.size,h.block⟩
theorem JO {B:Nat} {w w1 w2:World} (h:Below B w w1) (hB:B≤w1.heap.size) (k:Below w1.heap.size w1 w2):Below B w w2:=
 h.trans ⟨k.os,k.tape,k.output,k.size,fun i hi=>k.block i (Nat.lt_of_lt_of_le hi hB)⟩
theorem vE {B:Nat} {w w1:World} (h:Below B w w1) (row:Option Nat) (hB:B≤w1.heap.size) {w2:World} (hg:w1.grownBy w2 row) (hr:∀ k,row=some k→B≤k):Below B w w2:=h.grown hg hB hr
theorem pR {w w1:World} (h:Below w.heap.size w w1) {a:Addr} {v:Value} (hc:w.cell? a=some v):w1.cell? a=some v:=(h.cell (World.block_lt_of_cell? w a hc)).trans hc
def nU (w:World) (k:IntKind) (A:Option Addr) (n:Nat) (xs:List Int):Prop:=
 xs.length=n∧n≤9223372036854775807∧(0<n→∃ ad,A=some ad∧∀ j,j<n→w.cell? (ad.add j)=some (.int k (xs.getD j 0)))
theorem nU.at_ {w:World} {k:IntKind} {A:Option Addr} {n:Nat} {xs:List Int} (h:nU w k A n xs) (i:Int) (h0:0≤i) (h1:i<n):∃ ad,A=some ad∧w.cell? (ad.add i.toNat)=some (.int k (rd xs i)):=by
 obtain ⟨ad,e,hc⟩:=h.2.2 (by omega)
 exact ⟨ad,e,hc _ (by omega)⟩
theorem WR (W:World) (base:Nat) (e:TypeId) (size:Nat):W.ownsRow base e size (.slice none 0 0) 0 []:=⟨by simp,.inl ⟨rfl,rfl⟩⟩
theorem qS {w:World} {base:Nat} {e:TypeId} {size n:Nat} {v:Value} {xs:List Value} (h:w.ownsRow base e size v n xs) (k:Nat) (hk:v.ownBlock=some k):base≤k:=by
 rcases h.2 with ⟨rfl,_⟩|⟨g,cap,cur,rfl,hb,_⟩
 ·simp [Value.ownBlock] at hk
 ·have:g=k:=by simpa [Value.ownBlock] using hk
  omega
theorem own_lt {w:World} {base:Nat} {e:TypeId} {size n:Nat} {v:Value} {xs:List Value} (h:w.ownsRow base e size v n xs) (k:Nat) (hk:v.ownBlock=some k):k<w.heap.size:=by
 rcases h.2 with ⟨rfl,_⟩|⟨g,cap,cur,rfl,hb,hh,_⟩
 ·simp [Value.ownBlock] at hk
 ·have:g=k:=by simpa [Value.ownBlock] using hk
  subst this
  exact (Array.getElem?_eq_some_iff.1 hh).1
def bytesOf (s:ByteArray):List Int:=s.data.toList.map fun b=>(b.toNat:Int)
theorem H6 {B:Nat} {w W:World} (h:Below B w W) (hB:B≤W.heap.size) (e:TypeId) (s:ByteArray):Below B w (Lib.bytesWorld W e s):=
 h.trans ⟨rfl,rfl,rfl,by rw [Lib.bytesWorld_size];omega,fun i hi=>Lib.bytesWorld_at_old W e s i (by omega)⟩
theorem nU.RL {w:World} {k:IntKind} {A:Option Addr} {n:Nat} {xs:List Int} (h:nU w k A n xs) (i:Nat) (hi:i≤n):nU w k A i (xs.take i):=by
 refine ⟨by rw [List.length_take,h.1];omega,by have:=h.2.1;omega,fun hp=>?_⟩
 obtain ⟨ad,e,hc⟩:=h.2.2 (by omega)
 refine ⟨ad,e,fun j hj=>?_⟩
 rw [hc j (by omega)]
 simp [List.getD_eq_getElem?_getD,hj]
def lZ {α:Type} (R:α→List Value→Prop) (size:Nat) (ps:List α) (cs:List Value):Prop:=
 cs.length=ps.length*size∧∀ j p,ps[j]?=some p→R p ((cs.drop (j*size)).take size)
theorem lZ.none {α:Type} (R:α→List Value→Prop) (size:Nat):lZ R size [] []:=⟨by simp,fun j p h=>by simp at h⟩
theorem lZ.snoc {α:Type} {R:α→List Value→Prop} {size:Nat} {ps:List α} {cs c:List Value} {p:α} (h:lZ R size ps cs) (hp:R p c) (hc:c.length=size):lZ R size (ps++ [p]) (cs++c):=by
 refine ⟨by rw [List.length_append,h.1,hc,List.length_append,List.length_singleton,Nat.add_mul,Nat.one_mul],fun j q hq=>?_⟩
 rcases Nat.lt_or_ge j ps.length with hj|hj
 ·rw [List.getElem?_append_left hj] at hq
  have h1:j*size+size≤cs.length:=by rw [h.1,← Nat.succ_mul];exact Nat.mul_le_mul_right _ hj
  have h2:=h.2 j q hq
  rw [List.drop_append_of_le_length (by omega),List.take_append_of_le_length (by rw [List.length_drop];omega)]
  exact h2
 ·have hj':j=ps.length:=by
   have:=(List.getElem?_eq_some_iff.1 hq).1
   rw [List.length_append,List.length_singleton] at this
   omega
  subst hj'
  have hq':p=q:=by simpa using hq
  subst hq'
  rw [← h.1,List.drop_left,← hc,List.take_length]
  exact hp
theorem lZ.rY {α:Type} {R R':α→List Value→Prop} {size:Nat} {ps:List α} {cs:List Value} (h:lZ R size ps cs) (hR:∀ p c,R p c→R' p c):lZ R' size ps cs:=⟨h.1,fun j p hj=>hR _ _ (h.2 j p hj)⟩
def eU {α:Type} (R:α→List Value→Prop) (size:Nat) (w:World) (A:Option Addr) (n:Nat) (ps:List α):Prop:=
 ps.length=n∧n≤9223372036854775807∧(0<n→∃ ad,A=some ad∧∀ j p,ps[j]?=some p→∃ c,c.length=size∧R p c∧∀ i u,c[i]?=some u→w.cell? (ad.add (j*size+i))=some u)
theorem eU.get_ {α:Type} {R:α→List Value→Prop} {size:Nat} {w:World} {A:Option Addr} {n:Nat} {ps:List α} (h:eU R size w A n ps) (d:α) (i:Int) (h0:0≤i) (h1:i<n):
  ∃ ad c,A=some ad∧c.length=size∧R (ps.getD i.toNat d) c∧∀ j u,c[j]?=some u→w.cell? (ad.add (i.toNat*size+j))=some u:=by
 obtain ⟨ad,e,hc⟩:=h.2.2 (by omega)
 have hl:i.toNat<ps.length:=by have:=h.1;omega
 obtain ⟨c,hs,hr,hcell⟩:=hc i.toNat _ (List.getElem?_eq_getElem hl)
 refine ⟨ad,c,e,hs,?_,hcell⟩
 rw [List.getD_eq_getElem?_getD,List.getElem?_eq_getElem hl]
 exact hr
theorem eU.rY {α:Type} {R R':α→List Value→Prop} {size:Nat} {w w1:World} {A:Option Addr} {n:Nat} {ps:List α} (h:eU R size w A n ps) (hb:Below w.heap.size w w1) (hR:∀ p c,R p c→R' p c):eU R' size w1 A n ps:=
 ⟨h.1,h.2.1,fun hn=>by
  obtain ⟨ad,e,hc⟩:=h.2.2 hn
  refine ⟨ad,e,fun j p hj=>?_⟩
  obtain ⟨c,hs,hr,hcell⟩:=hc j p hj
  exact ⟨c,hs,hR _ _ hr,fun i u hu=>pR hb (hcell i u hu)⟩⟩
theorem yP {α:Type} {R:α→List Value→Prop} {w:World} {base n size:Nat} {e:TypeId} {v:Value} {ps:List α} {cs:List Value} (h:w.ownsRow base e size v n cs) (hR:lZ R size ps cs) (hn:ps.length=n):
  ∃ A c,v= .slice A n c∧eU R size w A n ps:=by
 rcases Nat.eq_zero_or_pos n with h0|h0
 ·rcases h.2 with ⟨rfl,rfl⟩|⟨g,cap,cur,rfl,_⟩
  ·exact ⟨none,0,rfl,hn,by omega,fun hp=>absurd hp (by omega)⟩
  ·exact ⟨_,cap,rfl,hn,by omega,fun hp=>absurd hp (by omega)⟩
 ·obtain ⟨g,cap,rfl,_,_⟩:=h.form h0
  have hm:n≤9223372036854775807:=by
   rcases h.2 with ⟨_,h1⟩|⟨g',cap',cur,he,_,_,h1,h2,_⟩
   ·omega
   ·simp only [maxLen] at h2
    omega
  refine ⟨_,cap,rfl,hn,hm,fun _=>⟨_,rfl,fun j p hj=>⟨(cs.drop (j*size)).take size,?_,hR.2 j p hj,fun i u hu=>?_⟩⟩⟩
  ·have hjl:=(List.getElem?_eq_some_iff.1 hj).1
   have h1:j*size+size≤cs.length:=by rw [hR.1,← Nat.succ_mul];exact Nat.mul_le_mul_right _ hjl
   rw [List.length_take,List.length_drop]
   omega
  ·refine h.cells (g:=g) rfl _ u ?_
   rw [List.getElem?_take] at hu
   split at hu
   ·rw [List.getElem?_drop] at hu
    exact hu
   ·cases hu
theorem dF (ad:Addr) (m j:Nat) (hj:0<j):ad.add (m+j)=⟨(ad.add m).block,(ad.add m).off+j,none⟩:=by
 unfold Addr.add
 by_cases hm:m=0
 ·subst hm
  simp [Nat.ne_of_gt hj]
 ·simp [hm,Nat.add_assoc]
section
variable {P:Program} {ops:Array Oper} {rest:List Oper} {o:Oper} {a:Act} {Q:Exit→Act→World→Prop}
theorem pV {w0 W:World} (base:Nat) (hgd:o.guard=none) (s x:Operand) (t e:TypeId) (z:Value) (size bytes:Nat)
  (ho:o.op= .call { callee:= .builtin .append,args:=#[s,x],argTypes:=#[t,t] })
  (ht:P.underlying t=some (.slice e)) (hinfo:(P.info? e).map (fun i=>(i.zero,i.size,i.bytes))=some (some z,size,bytes)) (hz:z.cells.size=size) (hs0:0<size) (hb0:0<bytes)
  (v:Value) (n:Nat) (xs ys:List Value) (hs:a.eval s=v) (hx:a.eval x= .slice (some ⟨W.heap.size,0,none⟩) 1 1) (hys:ys.length=size) (h1:∀ u∈ys,u.oneCell'=true)
  (HO:W.ownsRow base e size v n xs) (HB:Below base w0 W) (hbase:base≤W.heap.size) (hl:(n+1)*bytes≤140737488355328)
  (h:∀ v1 w1,w1.ownsRow base e size v1 (n+1) (xs++ys)→Below base w0 w1→W.grownBy w1 v.ownBlock→(v1.ownBlock=v.ownBlock∨∃ b,v1.ownBlock=some b∧W.heap.size≤b)→wpList P ops Q rest (a.put o.dst v1) w1):
  wpList P ops Q (o :: rest) a (W.alloc (.cells ys.toArray e)):=by
 obtain ⟨i0,hi,hzz⟩:=Option.map_eq_some_iff.1 hinfo
 simp only [Prod.mk.injEq] at hzz
 obtain ⟨hz0,hz1,hz2⟩:=hzz
 have hlen:n+1≤140737488355328:=Nat.le_trans (Nat.le_mul_of_pos_right _ hb0) hl
 refine wpList_append_own_at (W.alloc (.cells ys.toArray e)) hgd s x t ho base e i0 z size bytes ht hi hz0 hz1 hz2 hz hs0 v n xs hs (HO.alloc _) ⟨W.heap.size,0,none⟩ 1 1 ys hx (by rw [hys];simp)
  (by simpa using World.news_of_block (cs:=ys.toArray) (t:=e) (fr:=(0,0)) (heap_alloc_new W (.cells ys.toArray e))) h1 (by simp only [maxLen];omega) hl (by simp;omega) ?_
 intro v1 w1 hown hg _ hat
 refine h v1 w1 hown ((HB.alloc hbase _).grown hg (by simp;omega) (qS HO)) (World.grownBy.trans (World.grownBy_alloc W _ _) hg) ?_
 rcases hat with hat|hat
 ·exact .inl hat
 ·exact .inr ⟨_,hat,by simp⟩
end
theorem IZ {w:World} {base:Nat} {e t:TypeId} {size n g:Nat} {v:Value} {xs:List Value} {cs:Array Value} (h:w.ownsRow base e size v n xs) (hg:w.heap[g]?=some (.cells cs t (0,0))) (hne:e≠t):some g≠v.ownBlock:=by
 rcases h.2 with ⟨rfl,_⟩|⟨g',cap,cur,rfl,_,hh,_⟩
 ·simp [Value.ownBlock]
 ·intro he
  have:g=g':=by simpa [Value.ownBlock] using he
  subst this
  rw [hg] at hh
  injection hh with hh
  injection hh with _ ht
  exact hne ht.symm
theorem G0 {w:World} {base:Nat} {e:TypeId} {size n:Nat} {v:Value} {xs:List Value} (h:w.ownsRow base e size v n xs) {p:Addr} (hne:some p.block≠v.ownBlock) (u:Value):(w.setCell p u).ownsRow base e size v n xs:=by
 obtain ⟨h1,h2⟩:=h
 refine ⟨h1,?_⟩
 rcases h2 with h2|⟨g,cap,cur,rfl,hg,hh,r⟩
 ·exact .inl h2
 ·exact .inr ⟨g,cap,cur,rfl,hg,by rw [Below.heap_setCell _ _ _ _ (fun e=>hne (by rw [e];rfl))];exact hh,r⟩
theorem bE {w:World} {g:Nat} {t:TypeId} {cs:Array Value} (h:w.heap[g]?=some (.cells cs t (0,0))) (i:Nat) (u:Value):(w.setCell ⟨g,i,none⟩ u).heap[g]?=some (.cells (cs.setIfInBounds i u) t (0,0)):=by
 simp [World.setCell,Array.getElem?_modify,h]
theorem bB {w:World} {g:Nat} {t:TypeId} {cs:Array Value} (h:w.heap[g]?=some (.cells cs t (0,0))) {p:Addr} (hp:g≠p.block) (u:Value):(w.setCell p u).heap[g]?=some (.cells cs t (0,0)):=(Below.heap_setCell w p u g hp).trans h
theorem aZ {w:World} {g:Nat} {o:Obj} (h:w.heap[g]?=some o):g<w.heap.size:=(Array.getElem?_eq_some_iff.1 h).1
theorem aC {w:World} {g:Nat} {t:TypeId} {cs:Array Value} (h:w.heap[g]?=some (.cells cs t (0,0))) (i:Nat):w.cell? ⟨g,i,none⟩=cs[i]?:=cell_of_row w g i cs t (0,0) h
theorem aG {w:World} {g:Nat} {t:TypeId} {cs:Array Value} (h:w.heap[g]?=some (.cells cs t (0,0))) (i:Nat):w.frozen? ⟨g,i,none⟩=false:=by simp [World.frozen?,h]
theorem gA {w w1:World} {g:Nat} {o:Obj} {row:Option Nat} (h:w.heap[g]?=some o) (hg:w.grownBy w1 row) (hne:some g≠row):w1.heap[g]?=some o:=(hg.block g (aZ h) hne).trans h
theorem aK {w:World} {g g':Nat} {t t':TypeId} {cs cs':Array Value} (h:w.heap[g]?=some (.cells cs t (0,0))) (h':w.heap[g']?=some (.cells cs' t' (0,0))) (hne:t≠t'):g≠g':=by
 rintro rfl
 rw [h] at h'
 injection h' with h'
 injection h' with _ ht
 exact hne ht
def mT (w w':World) (g:Nat) (row:Option Nat):Prop:=w.heap.size≤w'.heap.size∧∀ i,i<w.heap.size→i≠g→some i≠row→w'.heap[i]?=w.heap[i]?
theorem mT.tX {w w1:World} {g:Nat} {row:Option Nat} (h:mT w w1 g row) (j:Nat) (u:Value):mT w (w1.setCell ⟨g,j,none⟩ u) g row:=
 ⟨by simpa [World.setCell] using h.1,fun i hi hg hr=>(Below.heap_setCell w1 ⟨g,j,none⟩ u i hg).trans (h.2 i hi hg hr)⟩
theorem mT.trans {w w1 w2:World} {g:Nat} {row row1:Option Nat} (h:mT w w1 g row) (k:mT w1 w2 g row1) (hr:row1=row∨∃ b,row1=some b∧w.heap.size≤b):mT w w2 g row:=
 ⟨Nat.le_trans h.1 k.1,fun i hi hg hn=>by
  refine (k.2 i (Nat.lt_of_lt_of_le hi h.1) hg ?_).trans (h.2 i hi hg hn)
  rcases hr with rfl|⟨b,rfl,hb⟩
  ·exact hn
  ·intro e
   injection e with e
   omega⟩
section
variable {P:Program} {ops:Array Oper} {o:Oper} {a:Act} {Q:Exit→Act→World→Prop} {K:Act→World→Prop}
theorem qU {w0 W:World} (base:Nat) (hw:Region.wanted o (yielded ops a.tmps)=true) (s x:Operand) (t e:TypeId) (z:Value) (size bytes:Nat)
  (ho:o.op= .call { callee:= .builtin .append,args:=#[s,x],argTypes:=#[t,t] })
  (ht:P.underlying t=some (.slice e)) (hinfo:(P.info? e).map (fun i=>(i.zero,i.size,i.bytes))=some (some z,size,bytes)) (hz:z.cells.size=size) (hs0:0<size) (hb0:0<bytes)
  (v:Value) (n:Nat) (xs ys:List Value) (hs:a.eval s=v) (hx:a.eval x= .slice (some ⟨W.heap.size,0,none⟩) 1 1) (hys:ys.length=size) (h1:∀ u∈ys,u.oneCell'=true)
  (HO:W.ownsRow base e size v n xs) (HB:Below base w0 W) (hbase:base≤W.heap.size) (hl:(n+1)*bytes≤140737488355328)
  (h:∀ v1 w1,w1.ownsRow base e size v1 (n+1) (xs++ys)→Below base w0 w1→W.grownBy w1 v.ownBlock→(v1.ownBlock=v.ownBlock∨∃ b,v1.ownBlock=some b∧W.heap.size≤b)→K (a.put o.dst v1) w1):
  if Region.wanted o (yielded ops a.tmps)=true then Oper.wp P o a (W.alloc (.cells ys.toArray e)) K Q else K (a.put o.dst undef) (W.alloc (.cells ys.toArray e)):=by
 obtain ⟨i0,hi,hzz⟩:=Option.map_eq_some_iff.1 hinfo
 simp only [Prod.mk.injEq] at hzz
 obtain ⟨hz0,hz1,hz2⟩:=hzz
 have hlen:n+1≤140737488355328:=Nat.le_trans (Nat.le_mul_of_pos_right _ hb0) hl
 rw [if_pos hw]
 obtain ⟨v1,w1,hr,hown,hg,_,hat⟩:=run_append_own_at (P:=P) (W.alloc (.cells ys.toArray e)) base t o.type e i0 z size bytes ht hi hz0 hz1 hz2 hz hs0 v n xs (HO.alloc _) ⟨W.heap.size,0,none⟩ 1 1 ys (by rw [hys];simp)
  (by simpa using World.news_of_block (cs:=ys.toArray) (t:=e) (fr:=(0,0)) (heap_alloc_new W (.cells ys.toArray e))) h1 (by simp only [maxLen];omega) hl (by simp;omega)
 unfold Oper.wp execOp
 simp only [ho,resolve,invoke,builtin,Sem.run_bind,Sem.run_pure,Result.andThen_ok,List.map_toArray,List.map_cons,List.map_nil,hs,hx,hr]
 refine h v1 w1 hown ((HB.alloc hbase _).grown hg (by simp;omega) (qS HO)) (World.grownBy.trans (World.grownBy_alloc W _ _) hg) ?_
 rcases hat with hat|hat
 ·exact .inl hat
 ·exact .inr ⟨_,hat,by simp⟩
end
theorem JV {w:World} {base base':Nat} {e:TypeId} {size n:Nat} {v:Value} {xs:List Value} (h:w.ownsRow base e size v n xs) (hb:base'≤base):w.ownsRow base' e size v n xs:=by
 obtain ⟨h1,h2⟩:=h
 refine ⟨h1,?_⟩
 rcases h2 with h2|⟨g,cap,cur,rfl,hg,r⟩
 ·exact .inl h2
 ·exact .inr ⟨g,cap,cur,rfl,Nat.le_trans hb hg,r⟩
section
variable {α:Type} {enc:α→Value} {d:α}
def H7 (enc:α→Value) (xs:List α):List Value:=xs.map enc
def rdOf (d:α) (xs:List α) (i:Int):α:=xs.getD i.toNat d
def mX (enc:α→Value) (d:α) (w:World) (A:Option Addr) (n:Nat) (xs:List α):Prop:=
 xs.length=n∧n≤9223372036854775807∧(0<n→∃ ad,A=some ad∧∀ j,j<n→w.cell? (ad.add j)=some (enc (xs.getD j d)))
theorem mX.at_ {w:World} {A:Option Addr} {n:Nat} {xs:List α} (h:mX enc d w A n xs) (i:Int) (h0:0≤i) (h1:i<n):∃ ad,A=some ad∧w.cell? (ad.add i.toNat)=some (enc (rdOf d xs i)):=by
 obtain ⟨ad,e,hc⟩:=h.2.2 (by omega)
 exact ⟨ad,e,hc _ (by omega)⟩
theorem mX.RL {w:World} {A:Option Addr} {n:Nat} {xs:List α} (h:mX enc d w A n xs) (i:Nat) (hi:i≤n):mX enc d w A i (xs.take i):=by
 refine ⟨by rw [List.length_take,h.1];omega,by have:=h.2.1;omega,fun hp=>?_⟩
 obtain ⟨ad,e,hc⟩:=h.2.2 (by omega)
 refine ⟨ad,e,fun j hj=>?_⟩
 rw [hc j (by omega)]
 simp [List.getD_eq_getElem?_getD,hj]
end
theorem aV {w:World} {g:Nat} {o:Obj} (h:w.heap[g]?=some o) (o':Obj):(w.alloc o').heap[g]?=some o:=(Below.heap_alloc w o' g (aZ h)).trans h
theorem l8 {w:World} {g:Nat} {o:Obj} (h:w.heap[g]?=some o) (n:Nat):(w.drewN n).heap[g]?=some o:=h
theorem aE {w w1:World} {g:Nat} {o:Obj} (h:w.heap[g]?=some o) (hb:Below w.heap.size w w1):w1.heap[g]?=some o:=(hb.block g (aZ h)).trans h
theorem bF (w:World) (o:Obj):(w.alloc o).heap[w.heap.size]?=some o:=heap_alloc_new w o
theorem own_le {w:World} {base n m c size:Nat} {e:TypeId} {A:Option Addr} {xs:List Value} (h:w.ownsRow base e size (.slice A m c) n xs):m≤c:=by
 rcases h.2 with ⟨he,_⟩|⟨g,cap,cur,he,_,_,hnc,_⟩
 ·injection he with _ h2 h3
  omega
 ·injection he with _ h2 h3
  omega
def gK {α:Type} (R:α→List Value→Prop) (e:TypeId) (size:Nat) (w:World) (base:Nat) (v:Value) (ps:List α):Prop:=
 ∃ inner,w.ownsRow base e size v ps.length inner∧lZ R size ps inner
section
variable {α:Type} {R R':α→List Value→Prop} {e:TypeId} {size:Nat} {w w1:World} {base:Nat} {v:Value} {ps:List α}
theorem gK.none_ (R:α→List Value→Prop) (e:TypeId) (size:Nat) (w:World) (base:Nat):gK R e size w base (.slice none 0 0) []:=⟨[],WR _ _ _ _,lZ.none _ _⟩
theorem gK.rY (h:gK R e size w base v ps) (hR:∀ p c,R p c→R' p c):gK R' e size w base v ps:=by
 obtain ⟨inner,ho,hr⟩:=h
 exact ⟨inner,ho,hr.rY hR⟩
theorem gK.tX (h:gK R e size w base v ps) {g:Nat} {t:TypeId} {cells:Array Value} (hb:w.heap[g]?=some (.cells cells t (0,0))) (ht:e≠t) (j:Nat) (u:Value):gK R e size (w.setCell ⟨g,j,none⟩ u) base v ps:=by
 obtain ⟨inner,ho,hr⟩:=h
 exact ⟨inner,G0 ho (IZ ho hb ht) u,hr⟩
theorem gK.reads (h:gK R e size w base v ps):∃ A c,v= .slice A ps.length c∧ps.length≤c∧eU R size w A ps.length ps:=by
 obtain ⟨inner,ho,hr⟩:=h
 obtain ⟨A,c,rfl,hrow⟩:=yP ho hr rfl
 exact ⟨A,c,rfl,own_le ho,hrow⟩
theorem gK.VL (h:gK R e size w base v ps) {g:Nat} {t:TypeId} {cells:Array Value} (hb:w.heap[g]?=some (.cells cells t (0,0))) (ht:e≠t):some g≠v.ownBlock:=by
 obtain ⟨inner,ho,hr⟩:=h
 exact IZ ho hb ht
end
theorem eU.inner_ {α:Type} {R:α→List Value→Prop} {size:Nat} {w:World} {ad:Addr} {n:Nat} {ps:List α} (h:eU R size w (some ad) n ps):
  ∃ inner,lZ R size ps inner∧∀ j u,inner[j]?=some u→w.cell? (ad.add j)=some u:=by
 have key:∀ m,m≤ps.length→∃ inner,lZ R size (ps.take m) inner∧∀ j u,inner[j]?=some u→w.cell? (ad.add j)=some u:=by
  intro m
  induction m with
  |zero=>exact fun _=>⟨[],lZ.none _ _,fun j u hu=>by simp at hu⟩
  |succ m ih=>
   intro hm
   obtain ⟨inner,hr,hc⟩:=ih (by omega)
   obtain ⟨ad',he,hcell⟩:=h.2.2 (by have:=h.1;omega)
   injection he with he
   subst he
   obtain ⟨c,hcl,hp,hcc⟩:=hcell m _ (List.getElem?_eq_getElem (show m<ps.length by omega))
   refine ⟨inner++c,?_,fun j u hu=>?_⟩
   ·rw [List.take_succ_eq_append_getElem (show m<ps.length by omega)]
    exact hr.snoc hp hcl
   ·have hil:inner.length=m*size:=by rw [hr.1,List.length_take,Nat.min_eq_left (by omega)]
    rcases Nat.lt_or_ge j inner.length with hj|hj
    ·rw [List.getElem?_append_left hj] at hu
     exact hc j u hu
    ·rw [List.getElem?_append_right hj] at hu
     have:=hcc (j - inner.length) u hu
     rwa [hil,Nat.add_sub_cancel' (by omega)] at this
 obtain ⟨inner,hr,hc⟩:=key ps.length (Nat.le_refl _)
 rw [List.take_length] at hr
 exact ⟨inner,hr,hc⟩
structure Kd (α:Type) where
 sz:Nat
 E:List Nat
 K:World→α→List Value→Prop
 M:World→Nat→(Nat→Prop)→α→List Value→Prop
 K_len:∀ {w x cs},K w x cs→cs.length=sz
 K_one:∀ {w x cs},K w x cs→∀ u∈cs,u.oneCell'=true
 K_below:∀ {w w1:World} {x cs},Below w.heap.size w w1→K w x cs→K w1 x cs
 K_of_M:∀ {w base ok x cs},M w base ok x cs→K w x cs
 M_mono:∀ {w base ok ok' x cs},(∀ k,ok k→ok' k)→M w base ok x cs→M w base ok' x cs
 M_bound:∀ {w:World} {base ok x cs},M w base ok x cs→M w base (fun k=>ok k∧base≤k∧k<w.heap.size∧∃ q,q∈E∧∃ cells,w.heap[k]?=some (.cells cells q (0,0))) x cs
 M_move:∀ {w w1:World} {base ok x cs},(∀ k,ok k→w1.heap[k]?=w.heap[k]?)→M w base ok x cs→M w1 base ok x cs
 M_lower:∀ {w base base' ok x cs},base'≤base→M w base ok x cs→M w base' ok x cs
theorem SQ {w w1:World} {base:Nat} {e:TypeId} {size n:Nat} {v:Value} {xs:List Value} (h:w.ownsRow base e size v n xs) (hm:∀ k,v.ownBlock=some k→w1.heap[k]?=w.heap[k]?):w1.ownsRow base e size v n xs:=by
 obtain ⟨h1,h2⟩:=h
 refine ⟨h1,?_⟩
 rcases h2 with h2|⟨g,cap,cur,rfl,hg,hh,r⟩
 ·exact .inl h2
 ·exact .inr ⟨g,cap,cur,rfl,hg,(hm g (by simp [Value.ownBlock])).trans hh,r⟩
theorem BG {w:World} {base:Nat} {e:TypeId} {size n:Nat} {v:Value} {xs:List Value} (h:w.ownsRow base e size v n xs) (k:Nat) (hk:v.ownBlock=some k):∃ cells,w.heap[k]?=some (.cells cells e (0,0)):=by
 rcases h.2 with ⟨rfl,_⟩|⟨g,cap,cur,rfl,hg,hh,r⟩
 ·simp [Value.ownBlock] at hk
 ·have:g=k:=by simpa [Value.ownBlock] using hk
  subst this
  exact ⟨cur,hh⟩
namespace Kd
def C {α:Type} (d:Kd α) (w:World) (A:Option Addr) (n:Nat) (xs:List α):Prop:=eU (d.K w) d.sz w A n xs
def R {α:Type} (d:Kd α) (e:Nat) (w:World) (base:Nat) (ok:Nat→Prop) (v:Value) (xs:List α):Prop:=
 (∀ k,v.ownBlock=some k→ok k)∧gK (d.M w base (fun k=>ok k∧some k≠v.ownBlock)) e d.sz w base v xs
section
variable {α:Type} {d:Kd α} {e:Nat} {w w1:World} {base:Nat} {ok ok':Nat→Prop} {v:Value} {xs:List α}
theorem cH {A:Option Addr} {n:Nat} (h:d.C w A n xs) (hb:Below w.heap.size w w1):d.C w1 A n xs:=eU.rY h hb (fun _ _ hp=>d.K_below hb hp)
theorem lA (d:Kd α) (e:Nat) (w:World) (base:Nat) (ok:Nat→Prop):d.R e w base ok (.slice none 0 0) []:=⟨fun k hk=>by simp [Value.ownBlock] at hk,gK.none_ _ _ _ _ _⟩
theorem fB (h:d.R e w base ok v xs) (hok:∀ k,ok k→ok' k):d.R e w base ok' v xs:=⟨fun k hk=>hok k (h.1 k hk),h.2.rY (fun _ _ hp=>d.M_mono (fun k hk=>⟨hok k hk.1,hk.2⟩) hp)⟩
theorem eW (h:d.R e w base ok v xs):d.R e w base (fun k=>ok k∧base≤k∧k<w.heap.size∧∃ q,q∈e :: d.E∧∃ cells,w.heap[k]?=some (.cells cells q (0,0))) v xs:=by
 obtain ⟨h0,inner,ho,hr⟩:=h
 refine ⟨fun k hk=>?_,inner,ho,hr.rY (fun _ _ hp=>d.M_mono (fun k hk=>?_) (d.M_bound hp))⟩
 ·obtain ⟨cells,hc⟩:=BG ho k hk
  exact ⟨h0 k hk,qS ho k hk,own_lt ho k hk,e,List.mem_cons_self,cells,hc⟩
 ·obtain ⟨⟨h1,h2⟩,h3,h4,q,hq,hc⟩:=hk
  exact ⟨⟨h1,h3,h4,q,List.mem_cons_of_mem _ hq,hc⟩,h2⟩
theorem R_move (h:d.R e w base ok v xs) (hm:∀ k,ok k→w1.heap[k]?=w.heap[k]?):d.R e w1 base ok v xs:=by
 obtain ⟨h0,inner,ho,hr⟩:=h
 exact ⟨h0,inner,SQ ho (fun k hk=>hm k (h0 k hk)),hr.rY (fun _ _ hp=>d.M_move (fun k hk=>hm k hk.1) hp)⟩
theorem cT {base':Nat} (h:d.R e w base ok v xs) (hb:base'≤base):d.R e w base' ok v xs:=by
 obtain ⟨h0,inner,ho,hr⟩:=h
 exact ⟨h0,inner,JV ho hb,hr.rY (fun _ _ hp=>d.M_lower hb hp)⟩
theorem eD (h:d.R e w base ok v xs) (hm:∀ k,ok k→k<w.heap.size→w1.heap[k]?=w.heap[k]?):d.R e w1 base ok v xs:=
 fB (R_move (eW h) (fun k hk=>hm k hk.1 hk.2.2.1)) (fun _ hk=>hk.1)
theorem pA (h:d.R e w base ok v xs) (hb:Below w.heap.size w w1):d.R e w1 base ok v xs:=eD h (fun k _ hk=>hb.block k hk)
theorem oQ (h:d.R e w base ok v xs) {p:Addr} (hok:∀ k,ok k→k≠p.block) (u:Value):d.R e (w.setCell p u) base ok v xs:=eD h (fun k ho _=>Below.heap_setCell w p u k (hok k ho))
theorem YZ (h:d.R e w base ok v xs) {g t:Nat} {cells:Array Value} (hb:w.heap[g]?=some (.cells cells t (0,0))) (ht:∀ q,q∈e :: d.E→q≠t):d.R e w base (fun k=>ok k∧k≠g) v xs:=
 fB (eW h) (fun k hk=>⟨hk.1,by
  obtain ⟨_,_,_,q,hq,cells',hc⟩:=hk
  rintro rfl
  rw [hc] at hb
  injection hb with hb
  injection hb with _ hb
  exact ht q hq hb⟩)
theorem tE (h:d.R e w base ok v xs) {g t:Nat} {cells:Array Value} (hb:w.heap[g]?=some (.cells cells t (0,0))) (ht:∀ q,q∈e :: d.E→q≠t) (j:Nat) (u:Value):d.R e (w.setCell ⟨g,j,none⟩ u) base ok v xs:=
 fB (oQ (p:=⟨g,j,none⟩) (YZ h hb ht) (fun _ hk=>hk.2) u) (fun _ hk=>hk.1)
theorem bY (h:d.R e w base ok v xs):∃ A c,v= .slice A xs.length c∧xs.length≤c∧d.C w A xs.length xs:=by
 obtain ⟨A,c,he,hl,hr⟩:=gK.reads h.2
 exact ⟨A,c,he,hl,hr.rY (Below.refl _ _) (fun _ _ hp=>d.K_of_M hp)⟩
theorem YB (h:d.R e w base ok v xs) {g t:Nat} {cells:Array Value} (hb:w.heap[g]?=some (.cells cells t (0,0))) (ht:e≠t):some g≠v.ownBlock:=gK.VL h.2 hb ht
end
def scalar {α:Type} (enc:α→Value) (h1:∀ x,(enc x).oneCell'=true):Kd α where
 sz:=1
 E:= []
 K:=fun _ x cs=>cs= [enc x]
 M:=fun _ _ _ x cs=>cs= [enc x]
 K_len:=fun h=>by rw [h];rfl
 K_one:=fun h u hu=>by
  rw [h] at hu
  rw [List.mem_singleton.1 hu]
  exact h1 _
 K_below:=fun _ h=>h
 K_of_M:=fun h=>h
 M_mono:=fun _ h=>h
 M_bound:=fun h=>h
 M_move:=fun _ h=>h
 M_lower:=fun _ h=>h
def int (k:IntKind):Kd Int:=scalar (Value.int k) (fun _=>rfl)
def pair {α β:Type} (a:Kd α) (b:Kd β):Kd (α × β) where
 sz:=a.sz+b.sz
 E:=a.E++b.E
 K:=fun w x cs=>∃ c0 c1,cs=c0++c1∧a.K w x.1 c0∧b.K w x.2 c1
 M:=fun w base ok x cs=>∃ c0 c1,cs=c0++c1∧a.M w base ok x.1 c0∧b.M w base ok x.2 c1
 K_len:=by
  rintro w x cs ⟨c0,c1,rfl,h0,h1⟩
  rw [List.length_append,a.K_len h0,b.K_len h1]
 K_one:=by
  rintro w x cs ⟨c0,c1,rfl,h0,h1⟩ u hu
  rcases List.mem_append.1 hu with hu|hu
  ·exact a.K_one h0 u hu
  ·exact b.K_one h1 u hu
 K_below:=by
  rintro w w1 x cs hb ⟨c0,c1,rfl,h0,h1⟩
  exact ⟨c0,c1,rfl,a.K_below hb h0,b.K_below hb h1⟩
 K_of_M:=by
  rintro w base ok x cs ⟨c0,c1,rfl,h0,h1⟩
  exact ⟨c0,c1,rfl,a.K_of_M h0,b.K_of_M h1⟩
 M_mono:=by
  rintro w base ok ok' x cs hok ⟨c0,c1,rfl,h0,h1⟩
  exact ⟨c0,c1,rfl,a.M_mono hok h0,b.M_mono hok h1⟩
 M_bound:=by
  rintro w base ok x cs ⟨c0,c1,rfl,h0,h1⟩
  refine ⟨c0,c1,rfl,a.M_mono ?_ (a.M_bound h0),b.M_mono ?_ (b.M_bound h1)⟩
  ·rintro k ⟨h2,h3,h4,q,hq,hc⟩
   exact ⟨h2,h3,h4,q,List.mem_append_left _ hq,hc⟩
  ·rintro k ⟨h2,h3,h4,q,hq,hc⟩
   exact ⟨h2,h3,h4,q,List.mem_append_right _ hq,hc⟩
 M_move:=by
  rintro w w1 base ok x cs hm ⟨c0,c1,rfl,h0,h1⟩
  exact ⟨c0,c1,rfl,a.M_move hm h0,b.M_move hm h1⟩
 M_lower:=by
  rintro w base base' ok x cs hb ⟨c0,c1,rfl,h0,h1⟩
  exact ⟨c0,c1,rfl,a.M_lower hb h0,b.M_lower hb h1⟩
def iso {α β:Type} (d:Kd α) (f:β→α):Kd β where
 sz:=d.sz
 E:=d.E
 K:=fun w x cs=>d.K w (f x) cs
 M:=fun w base ok x cs=>d.M w base ok (f x) cs
 K_len:=d.K_len
 K_one:=d.K_one
 K_below:=d.K_below
 K_of_M:=d.K_of_M
 M_mono:=d.M_mono
 M_bound:=d.M_bound
 M_move:=d.M_move
 M_lower:=d.M_lower
def bot {α:Type} (sz:Nat) (E:List Nat):Kd α where
 sz:=sz
 E:=E
 K:=fun _ _ _=>False
 M:=fun _ _ _ _ _=>False
 K_len:=fun h=>h.elim
 K_one:=fun h=>h.elim
 K_below:=fun _ h=>h
 K_of_M:=fun h=>h
 M_mono:=fun _ h=>h
 M_bound:=fun h=>h
 M_move:=fun _ h=>h
 M_lower:=fun _ h=>h
def upto {α:Type} (F:Kd α→Kd α) (sz:Nat) (E:List Nat):Nat→Kd α
 |0=>bot sz E
 |n+1=>F (upto F sz E n)
theorem L5 {α:Type} {d:Kd α} {w:World} {A:Option Addr} {n:Nat} {xs:List α} (h:d.C w A n xs) (z:α) (i:Int) (h0:0≤i) (h1:i<n):
  ∃ ad c,A=some ad∧c.length=d.sz∧d.K w (xs.getD i.toNat z) c∧∀ j u,c[j]?=some u→w.cell? (ad.add (i.toNat*d.sz+j))=some u:=eU.get_ h z i h0 h1
theorem wU {α:Type} {d:Kd α} {e base:Nat} {ok okp:Nat→Prop} {W w1:World} {v v1:Value} {xs:List α} {p:α} {inner cs:List Value} (h0:∀ k,v.ownBlock=some k→ok k) (hr:lZ (d.M W base (fun k=>ok k∧some k≠v.ownBlock)) d.sz xs inner) (hp:d.M W base okp p cs) (hokp:∀ k,okp k→ok k∧some k≠v.ownBlock) (hfresh:∀ k,W.heap.size≤k→ok k)
  (hown:w1.ownsRow base e d.sz v1 (xs.length+1) (inner++cs)) (hg:W.grownBy w1 v.ownBlock) (hat:v1.ownBlock=v.ownBlock∨∃ b,v1.ownBlock=some b∧W.heap.size≤b):d.R e w1 base ok v1 (xs++ [p]):=by
 have hne:∀ k,some k≠v.ownBlock→k<W.heap.size→some k≠v1.ownBlock:=by
  intro k hk hlt
  rcases hat with hat|⟨b,hb,hle⟩
  ·rw [hat];exact hk
  ·rw [hb]
   intro he
   injection he with he
   omega
 have step:∀ {q:α} {c:List Value} {o:Nat→Prop},d.M W base o q c→(∀ k,o k→ok k∧some k≠v.ownBlock)→d.M w1 base (fun k=>ok k∧some k≠v1.ownBlock) q c:=by
  intro q c o hq ho
  have h1:=d.M_move (w1:=w1) (fun k hk=>hg.block k hk.2.2.1 (ho k hk.1).2) (d.M_bound hq)
  exact d.M_mono (fun k hk=>⟨(ho k hk.1).1,hne k (ho k hk.1).2 hk.2.2.1⟩) h1
 refine ⟨fun k hk=>?_,inner++cs,by rw [List.length_append,List.length_singleton];exact hown,?_⟩
 ·rcases hat with hat|⟨b,hb,hle⟩
  ·exact h0 k (hat▸hk)
  ·rw [hb] at hk
   injection hk with hk
   exact hfresh k (by omega)
 ·exact (hr.rY (fun _ _ hq=>step hq (fun _ hk=>hk))).snoc (step hp hokp) (d.K_len (d.K_of_M hp))
section
variable {P:Program} {ops:Array Oper} {rest:List Oper} {o:Oper} {a:Act} {Q:Exit→Act→World→Prop} {α:Type}
theorem kR (d:Kd α) {w0 W:World} (base:Nat) (hgd:o.guard=none) (s x:Operand) (t e:TypeId) (z:Value) (bytes:Nat)
  (ho:o.op= .call { callee:= .builtin .append,args:=#[s,x],argTypes:=#[t,t] })
  (ht:P.underlying t=some (.slice e)) (hinfo:(P.info? e).map (fun i=>(i.zero,i.size,i.bytes))=some (some z,d.sz,bytes)) (hz:z.cells.size=d.sz) (hs0:0<d.sz) (hb0:0<bytes)
  (v:Value) (xs:List α) (p:α) (cs:List Value) (ok okp:Nat→Prop) (hs:a.eval s=v) (hx:a.eval x= .slice (some ⟨W.heap.size,0,none⟩) 1 1) (hp:d.M W base okp p cs) (hokp:∀ k,okp k→ok k∧some k≠v.ownBlock) (hfresh:∀ k,W.heap.size≤k→ok k)
  (HO:d.R e W base ok v xs) (HB:Below base w0 W) (hbase:base≤W.heap.size) (hl:(xs.length+1)*bytes≤140737488355328)
  (h:∀ v1 w1,d.R e w1 base ok v1 (xs++ [p])→Below base w0 w1→W.grownBy w1 v.ownBlock→(v1.ownBlock=v.ownBlock∨∃ b,v1.ownBlock=some b∧W.heap.size≤b)→wpList P ops Q rest (a.put o.dst v1) w1):
  wpList P ops Q (o :: rest) a (W.alloc (.cells cs.toArray e)):=by
 obtain ⟨h0,inner,hown,hr⟩:=HO
 refine pV base hgd s x t e z d.sz bytes ho ht hinfo hz hs0 hb0 v xs.length inner cs hs hx (d.K_len (d.K_of_M hp)) (d.K_one (d.K_of_M hp)) hown HB hbase hl ?_
 intro v1 w1 hown1 hb1 hg1 hat1
 exact h v1 w1 (wU h0 hr hp hokp hfresh hown1 hg1 hat1) hb1 hg1 hat1
end
section
variable {P:Program} {ops:Array Oper} {o:Oper} {a:Act} {Q:Exit→Act→World→Prop} {Kc:Act→World→Prop} {α:Type}
theorem pU (d:Kd α) {w0 W:World} (base:Nat) (hw:Region.wanted o (yielded ops a.tmps)=true) (s x:Operand) (t e:TypeId) (z:Value) (bytes:Nat)
  (ho:o.op= .call { callee:= .builtin .append,args:=#[s,x],argTypes:=#[t,t] })
  (ht:P.underlying t=some (.slice e)) (hinfo:(P.info? e).map (fun i=>(i.zero,i.size,i.bytes))=some (some z,d.sz,bytes)) (hz:z.cells.size=d.sz) (hs0:0<d.sz) (hb0:0<bytes)
  (v:Value) (xs:List α) (p:α) (cs:List Value) (ok okp:Nat→Prop) (hs:a.eval s=v) (hx:a.eval x= .slice (some ⟨W.heap.size,0,none⟩) 1 1) (hp:d.M W base okp p cs) (hokp:∀ k,okp k→ok k∧some k≠v.ownBlock) (hfresh:∀ k,W.heap.size≤k→ok k)
  (HO:d.R e W base ok v xs) (HB:Below base w0 W) (hbase:base≤W.heap.size) (hl:(xs.length+1)*bytes≤140737488355328)
  (h:∀ v1 w1,d.R e w1 base ok v1 (xs++ [p])→Below base w0 w1→W.grownBy w1 v.ownBlock→(v1.ownBlock=v.ownBlock∨∃ b,v1.ownBlock=some b∧W.heap.size≤b)→Kc (a.put o.dst v1) w1):
  if Region.wanted o (yielded ops a.tmps)=true then Oper.wp P o a (W.alloc (.cells cs.toArray e)) Kc Q else Kc (a.put o.dst undef) (W.alloc (.cells cs.toArray e)):=by
 obtain ⟨h0,inner,hown,hr⟩:=HO
 refine qU base hw s x t e z d.sz bytes ho ht hinfo hz hs0 hb0 v xs.length inner cs hs hx (d.K_len (d.K_of_M hp)) (d.K_one (d.K_of_M hp)) hown HB hbase hl ?_
 intro v1 w1 hown1 hb1 hg1 hat1
 exact h v1 w1 (wU h0 hr hp hokp hfresh hown1 hg1 hat1) hb1 hg1 hat1
end
theorem KJ {α:Type} {enc:α→Value} {d:α} {h1:∀ x,(enc x).oneCell'=true} {w:World} {A:Option Addr} {n:Nat} {xs:List α} (h:(scalar enc h1).C w A n xs):mX enc d w A n xs:=by
 refine ⟨h.1,h.2.1,fun hn=>?_⟩
 obtain ⟨ad,e,hc⟩:=h.2.2 hn
 refine ⟨ad,e,fun j hj=>?_⟩
 have hl:j<xs.length:=by have:=h.1;omega
 obtain ⟨c,_,hK,hcell⟩:=hc j _ (List.getElem?_eq_getElem hl)
 have hK':c= [enc xs[j]]:=hK
 subst hK'
 have:=hcell 0 _ rfl
 simpa [scalar,List.getD_eq_getElem?_getD,List.getElem?_eq_getElem hl] using this
end Kd
namespace Kd
end Kd
namespace Kd
end Kd
namespace Kd
section
variable {α β:Type} {d:Kd α} {d':Kd β} {e e':Nat} {w w1 W:World} {base b b':Nat} {ok ok' okv oku:Nat→Prop} {v u:Value} {xs:List α} {ys:List β}
theorem cO (h:d.R e w base ok v xs) (o:Obj):d.R e (w.alloc o) base ok v xs:=pA h (aD (Below.refl _ _) o)
theorem iI (h:d.R e w base ok v xs):d.R e w.drew base ok v xs:=pA h (bG (Below.refl _ _))
theorem eX (h:d.R e w base ok v xs) (m:Nat):d.R e (w.drewN m) base ok v xs:=pA h (aH (Below.refl _ _) m)
theorem dV {A:Option Addr} {n:Nat} (h:d.C w A n xs) (o:Obj):d.C (w.alloc o) A n xs:=cH h (aD (Below.refl _ _) o)
theorem DL {A:Option Addr} {n:Nat} (h:d.C w A n xs):d.C w.drew A n xs:=cH h (bG (Below.refl _ _))
theorem dC {A:Option Addr} {n c:Nat} (h:d.R e w base ok (.slice A n c) xs):n=xs.length∧n≤c∧d.C w A xs.length xs:=by
 obtain ⟨A',c',he,hl,hr⟩:=bY h
 injection he with h1 h2 h3
 subst h1
 exact ⟨h2,by omega,hr⟩
end
section
variable {w W:World} {A:Option Addr} {n:Nat}
theorem oZ {k:IntKind} {xs:List Int} (h:(Kd.int k).C w A n xs) (i:Int) (h0:0≤i) (h1:i<n):∃ ad,A=some ad∧w.cell? (ad.add i.toNat)=some (.int k (rd xs i)):=
 mX.at_ (KJ (enc:=Value.int k) (d:=(0:Int)) (h1:=fun _=>rfl) h) i h0 h1
end
end Kd
namespace Kd
end Kd
namespace Kd
end Kd
namespace Kd
end Kd
namespace Kd
end Kd
namespace Kd
theorem ER {α:Type} {R:α→List Value→Prop} {size:Nat} {ps qs:List α} {cs ds:List Value} (h:lZ R size ps cs) (h':lZ R size qs ds):lZ R size (ps++qs) (cs++ds):=by
 refine ⟨by rw [List.length_append,List.length_append,h.1,h'.1,Nat.add_mul],fun j p hj=>?_⟩
 rcases Nat.lt_or_ge j ps.length with hlt|hge
 ·rw [List.getElem?_append_left hlt] at hj
  have hle:j*size+size≤cs.length:=by rw [h.1,← Nat.succ_mul];exact Nat.mul_le_mul_right _ hlt
  rw [List.drop_append_of_le_length (by omega),List.take_append_of_le_length (by rw [List.length_drop];omega)]
  exact h.2 j p hj
 ·rw [List.getElem?_append_right hge] at hj
  have h2:=h'.2 (j - ps.length) p hj
  have hle:ps.length*size≤j*size:=Nat.mul_le_mul_right _ hge
  rw [List.drop_append,List.drop_eq_nil_of_le (by rw [h.1];exact hle),List.nil_append,h.1,← Nat.sub_mul]
  exact h2
section
variable {P:Program} {ops:Array Oper} {rest:List Oper} {o:Oper} {a:Act} {Q:Exit→Act→World→Prop} {α:Type}
theorem lV (d:Kd α) {Rr:α→List Value→Prop} {w0 W:World} (base:Nat) (hgd:o.guard=none) (s x:Operand) (t e:TypeId) (z:Value) (bytes:Nat)
  (ho:o.op= .call { callee:= .builtin .append,args:=#[s,x],argTypes:=#[t,t] })
  (ht:P.underlying t=some (.slice e)) (hinfo:(P.info? e).map (fun i=>(i.zero,i.size,i.bytes))=some (some z,d.sz,bytes)) (hz:z.cells.size=d.sz) (hs0:0<d.sz) (hb0:0<bytes)
  (v:Value) (xs ys:List α) (A:Option Addr) (m c:Nat) (ok okp:Nat→Prop) (hs:a.eval s=v) (hx:a.eval x= .slice A m c)
  (HO:d.R e W base ok v xs) (HR:eU Rr d.sz W A m ys) (hKM:∀ x cs,Rr x cs→d.M W base okp x cs) (hokp:∀ k,okp k→ok k∧some k≠v.ownBlock) (hfresh:∀ k,W.heap.size≤k→ok k)
  (HB:Below base w0 W) (hbase:base≤W.heap.size) (hl:(xs.length+m)*bytes≤140737488355328)
  (h:∀ v1 w1,d.R e w1 base ok v1 (xs++ys)→Below base w0 w1→W.grownBy w1 v.ownBlock→(v1.ownBlock=v.ownBlock∨∃ b,v1.ownBlock=some b∧W.heap.size≤b)→wpList P ops Q rest (a.put o.dst v1) w1):
  wpList P ops Q (o :: rest) a W:=by
 obtain ⟨i0,hi,hzz⟩:=Option.map_eq_some_iff.1 hinfo
 simp only [Prod.mk.injEq] at hzz
 obtain ⟨hz0,hz1,hz2⟩:=hzz
 have hm:ys.length=m:=HR.1
 have hlen:xs.length+m≤140737488355328:=Nat.le_trans (Nat.le_mul_of_pos_right _ hb0) hl
 obtain ⟨hok,inner,hown,hr⟩:=HO
 have hrun:∃ v1 w1,(Builtin.append_ #[t,t] o.type #[v,.slice A m c]).run P W= .ok v1 w1∧d.R e w1 base ok v1 (xs++ys)∧W.grownBy w1 v.ownBlock∧(v1.ownBlock=v.ownBlock∨∃ b,v1.ownBlock=some b∧W.heap.size≤b):=by
  rcases A with _|ad
  ·have h0:m=0:=by
    rcases Nat.eq_zero_or_pos m with h0|h0
    ·exact h0
    ·obtain ⟨ad,h,_⟩:=HR.2.2 h0
     cases h
   subst h0
   obtain rfl:ys= []:=List.eq_nil_of_length_eq_zero hm
   refine ⟨v,W,?_,by rw [List.append_nil];exact ⟨hok,inner,hown,hr⟩,World.grownBy.refl W _,.inl rfl⟩
   rcases hown.2 with ⟨rfl,hn⟩|⟨g,cap,cur,rfl,_,_,hnc,_⟩
   ·simp [Builtin.append_,run_underlying ht,sizeOf,typeInfo,hi,Builtin.lenOf,Builtin.firstCells]
   ·simp [Builtin.append_,run_underlying ht,sizeOf,typeInfo,hi,Builtin.lenOf,Builtin.firstCells,hnc,storeCells]
  ·obtain ⟨news,hnr,hnc⟩:=eU.inner_ HR
   have hnM:lZ (d.M W base okp) d.sz ys news:=hnr.rY (fun p c hp=>hKM p c hp)
   have hone:∀ u∈news,u.oneCell'=true:=by
    intro u hu
    obtain ⟨q,hq,rfl⟩:=List.mem_iff_getElem.1 hu
    have hql:q / d.sz<ys.length:=by
     rw [Nat.div_lt_iff_lt_mul hs0]
     rw [← hnM.1]
     exact hq
    have hc:=hnM.2 (q / d.sz) _ (List.getElem?_eq_getElem hql)
    refine d.K_one (d.K_of_M hc) _ ?_
    rw [List.mem_iff_getElem?]
    refine ⟨q % d.sz,?_⟩
    rw [List.getElem?_take,if_pos (Nat.mod_lt _ hs0),List.getElem?_drop,Nat.mul_comm,Nat.div_add_mod,List.getElem?_eq_getElem hq]
   obtain ⟨v1,w1,hrun,h2,hg,_,hat⟩:=run_append_own_at (P:=P) W base t o.type e i0 z d.sz bytes ht hi hz0 hz1 hz2 hz hs0 v xs.length inner hown ad m c news (by rw [hnM.1,hm]) hnc hone (by simp only [maxLen];omega) hl hbase
   have hat':v1.ownBlock=v.ownBlock∨∃ b,v1.ownBlock=some b∧W.heap.size≤b:=by
    rcases hat with hat|hat
    ·exact .inl hat
    ·exact .inr ⟨_,hat,Nat.le_refl _⟩
   have hne:∀ k,some k≠v.ownBlock→k<W.heap.size→some k≠v1.ownBlock:=by
    intro k hk hlt
    rcases hat' with hat|⟨b,hb,hle⟩
    ·rw [hat];exact hk
    ·rw [hb]
     intro he
     injection he with he
     omega
   have step:∀ {q:α} {c:List Value} {o:Nat→Prop},d.M W base o q c→(∀ k,o k→ok k∧some k≠v.ownBlock)→d.M w1 base (fun k=>ok k∧some k≠v1.ownBlock) q c:=by
    intro q c o hq ho
    have h1:=d.M_move (w1:=w1) (fun k hk=>hg.block k hk.2.2.1 (ho k hk.1).2) (d.M_bound hq)
    exact d.M_mono (fun k hk=>⟨(ho k hk.1).1,hne k (ho k hk.1).2 hk.2.2.1⟩) h1
   refine ⟨v1,w1,hrun,⟨fun k hk=>?_,inner++news,by rw [List.length_append,hm];exact h2,ER (hr.rY (fun _ _ hq=>step hq (fun _ hk=>hk))) (hnM.rY (fun _ _ hq=>step hq hokp))⟩,hg,hat'⟩
   rcases hat' with hat|⟨b,hb,hle⟩
   ·exact hok k (hat▸hk)
   ·rw [hb] at hk
    injection hk with hk
    exact hfresh k (by omega)
 obtain ⟨v1,w1,hr1,h1,hg,hat⟩:=hrun
 refine wpList_plain hgd fun K hK=>?_
 unfold Oper.wp execOp
 simp only [ho,resolve,invoke,builtin,Sem.run_bind,Sem.run_pure,Result.andThen_ok,List.map_toArray,List.map_cons,List.map_nil,hs,hx,hr1]
 exact hK _ _ (h v1 w1 h1 (HB.grown hg hbase (qS hown)) hg hat)
end
end Kd
namespace Kd
end Kd
namespace Kd
end Kd
theorem bA {w W w2:World} (h:Below w.heap.size w W) (k:Below W.heap.size W w2):Below w.heap.size w w2:=JO h h.size k
theorem bM {w W:World} {g j:Nat} {v:Value} (h:Below w.heap.size w W) (hg:w.heap.size≤g):Below w.heap.size w (W.setCell ⟨g,j,none⟩ v):=h.setCell hg _
theorem kB {w:World} {g:Nat} {t:TypeId} {cs cs':Array Value} (h:w.heap[g]?=some (.cells cs t (0,0))) (i:Nat) (u:Value) (e:cs.setIfInBounds i u=cs'):(w.setCell ⟨g,i,none⟩ u).heap[g]?=some (.cells cs' t (0,0)):=e▸bE h i u
theorem jO {base:Nat} {w W:World} (h:Below base w W):Below base w W.drew:=h.drew
namespace Kd
end Kd
namespace Kd
end Kd
namespace Kd
end Kd
namespace Kd
end Kd
section
variable {P:Program} {ops:Array Oper} {o:Oper} {a:Act} {Q:Exit→Act→World→Prop} {Kc:Act→World→Prop}
namespace Kd
end Kd
end
namespace Kd
end Kd
end Go.Proofs.YtjopodnlffaogaaGreatDoorW.PrintWords
end
section
namespace Go.Proofs.YtjopodnlffaogaaGreatDoorW.PrintLast
section
variable {P:Program} {ops:Array Oper} {Q:Exit→Act→World→Prop} {md:Region.Mode} {S:World→Prop} {ds:List Nat}
def Region.lS (md:Region.Mode) (ops:Array Oper) (i:Nat):Nat→Nat→Bool
 |0,_=>false
 |fuel+1,d=>match ops[d]? with
  |some o=>o.after.any fun e=>Region.binds md e&&(e.on==i || Region.lS md ops i fuel e.on)
  |none=>false
def Region.CV (md:Region.Mode) (ops:Array Oper) (listed:Array Bool):Bool:=
 (List.range ops.size).all fun j=>!listed.getD j false || match ops[j]? with
  |some o=>o.after.all fun e=>!Region.binds md e || listed.getD e.on false
  |none=>true
def Region.ZM (md:Region.Mode) (ops:Array Oper) (listed:Array Bool) (ds:List Nat) (i:Nat):Bool:=
 ds.all fun d=>listed.getD d true || Region.lS md ops i ops.size d
def fF (md:Region.Mode) (ops:Array Oper) (listed:Array Bool):Prop:=
 ∀ j oj,ops[j]?=some oj→listed.getD j false=true→∀ e∈oj.after,Region.binds md e=true→listed.getD e.on false=true
theorem Region.BN {listed:Array Bool} (h:Region.CV md ops listed=true):fF md ops listed:=by
 intro j oj hj hl e he hb
 have hlt:j<ops.size:=(Array.getElem?_eq_some_iff.1 hj).1
 have h1:=List.all_eq_true.1 h j (List.mem_range.2 hlt)
 simp only [hl,hj,Bool.not_true,Bool.false_or] at h1
 have h2:=Array.all_eq_true_iff_forall_mem.1 h1 e he
 simpa [hb] using h2
theorem fF.set {listed:Array Bool} {i:Nat} (h:fF md ops listed) (hi:i∈Region.ready md ops listed):fF md ops (listed.setIfInBounds i true):=by
 obtain ⟨_,oi,hoi,hall⟩:=mem_ready.1 hi
 intro j oj hj hl e he hb
 by_cases hij:i=j
 ·subst hij
  have:oj=oi:=Option.some.inj (hj.symm.trans hoi)
  subst this
  exact getD_set_true (hall e he hb)
 ·rw [getD_set_ne false hij] at hl
  exact getD_set_true (h j oj hj hl e he hb)
theorem Region.rL {listed:Array Bool} {i:Nat} (hc:fF md ops listed):∀ (fuel d:Nat),Region.lS md ops i fuel d=true→listed.getD d false=true→listed.getD i false=true
 |0,_,h,_=>by simp [Region.lS] at h
 |fuel+1,d,h,hl=>by
  unfold Region.lS at h
  cases ho:ops[d]? with
  |none=>rw [ho] at h;simp at h
  |some o=>
   rw [ho] at h
   obtain ⟨e,he,h1⟩:=Array.any_eq_true'.1 h
   simp only [Bool.and_eq_true,Bool.or_eq_true,beq_iff_eq] at h1
   have hle:=hc d o ho hl e he h1.1
   rcases h1.2 with h2|h2
   ·rw [← h2];exact hle
   ·exact Region.rL hc fuel e.on h2 hle
theorem Region.uD {listed:Array Bool} {i d fuel:Nat} (hc:fF md ops listed) (hr:Region.lS md ops i fuel d=true) (hun:listed.getD i true=false):d∉Region.ready md ops listed:=by
 intro hd
 obtain ⟨_,o,ho,hall⟩:=mem_ready.1 hd
 have hi:listed.getD i false=true:=by
  cases fuel with
  |zero=>simp [Region.lS] at hr
  |succ n=>
   unfold Region.lS at hr
   rw [ho] at hr
   obtain ⟨e,he,h1⟩:=Array.any_eq_true'.1 hr
   simp only [Bool.and_eq_true,Bool.or_eq_true,beq_iff_eq] at h1
   have hle:=hall e he h1.1
   rcases h1.2 with h2|h2
   ·rw [← h2];exact hle
   ·exact Region.rL hc n e.on h2 hle
 rcases Nat.lt_or_ge i listed.size with h'|h'
 ·simp [h'] at hun hi
  rw [hun] at hi
  cases hi
 ·simp [Array.getElem?_eq_none h'] at hun
def bK (P:Program) (md:Region.Mode) (ops:Array Oper) (Q:Exit→Act→World→Prop) (S:World→Prop) (ds:List Nat):Nat→Array Bool→Act→World→Prop
 |0,listed,a,w=>Region.ready md ops listed= []∧Q .normal a w
 |fuel+1,listed,a,w=>
  (Region.ready md ops listed= []→Q .normal a w)∧
  ∀ i∈Region.ready md ops listed,wpOp P ops Q i (fun a' w'=>(i∉ds→S w→S w')∧bK P md ops Q S ds fuel (listed.setIfInBounds i true) a' w') a w
theorem pP:∀ (fuel:Nat) (listed:Array Bool) (a:Act) (w:World),bK P md ops Q S ds fuel listed a w→wpAny P md ops Q fuel listed a w
 |0,_,_,_,h=>h
 |fuel+1,_,_,_,h=>⟨h.1,fun i hi=>wpOp_mono (fun a' w' h'=>pP fuel _ a' w' h'.2) (h.2 i hi)⟩
theorem uC {i:Nat} {oi:Oper} {v:Value} (hi:ops[i]?=some oi) (hsel:∀ (j:Nat) (o:Oper) cs b,ops[j]?=some o→o.op≠ .select cs b)
  (hQ:∀ c a w,Q (.panic c) (a.put oi.dst v) w→Q (.panic c) a w) (n:Nat):
  ∀ (fuel:Nat) (listed:Array Bool) (a:Act) (w:World),
   (∀ j oj,ops[j]?=some oj→j≠i→listed.getD j true=false→(∀ e∈oj.after,Region.binds md e=true→e.on≠i)→oi.apart ops oj=true)→
   fF md ops listed→(∀ d∈ds,listed.getD d true=false→Region.lS md ops i n d=true)→
   i∈Region.ready md ops listed→YieldsIf P ops S oi v a→S w→
   bK P md ops Q S ds fuel (listed.setIfInBounds i true) (a.put oi.dst v) w→bK P md ops Q S ds (fuel+1) listed a w:=by
 intro fuel
 induction fuel with
 |zero=>
  intro listed a w _ _ _ hr hy hS H
  refine ⟨fun h=>(by rw [h] at hr;cases hr),fun j hj=>?_⟩
  by_cases hji:j=i
  ·subst hji;exact hy.wpOp hi hS ⟨fun _ h=>h,H⟩
  ·have:=ready_mono hj hji
   rw [H.1] at this
   cases this
 |succ fuel ih=>
  intro listed a w hfree hc hd hr hy hS H
  refine ⟨fun h=>(by rw [h] at hr;cases hr),fun j hj=>?_⟩
  by_cases hji:j=i
  ·subst hji;exact hy.wpOp hi hS ⟨fun _ h=>h,H⟩
  ·have h1:=H.2 j (ready_mono hj hji)
   obtain ⟨hjun,oj,hoj,hall⟩:=mem_ready.1 hj
   have hiun:=(mem_ready.1 hr).1
   have hnot:∀ e∈oj.after,Region.binds md e=true→e.on≠i:=fun e he hb heq=>by
    have h1:=hall e he hb
    rw [heq] at h1
    rcases Nat.lt_or_ge i listed.size with h'|h'
    ·simp [h'] at hiun h1;rw [hiun] at h1;cases h1
    ·simp [Array.getElem?_eq_none h'] at h1
   have hjd:j∉ds:=fun hm=>Region.uD hc (hd j hm hjun) hiun hj
   have h2:=wpOp_putIf hoj (hfree j oj hoj hji hjun hnot) (fun cs b=>hsel i oi cs b hi) (fun cs b=>hsel j oj cs b hoj) hQ hy h1
   have hfree':∀ k ok,ops[k]?=some ok→k≠i→(listed.setIfInBounds j true).getD k true=false→
     (∀ e∈ok.after,Region.binds md e=true→e.on≠i)→oi.apart ops ok=true:=fun k ok hk hki hun hno=>by
    refine hfree k ok hk hki ?_ hno
    by_cases hjk:j=k
    ·subst hjk;exact hjun
    ·rw [getD_set_ne true hjk] at hun;exact hun
   have hd':∀ d∈ds,(listed.setIfInBounds j true).getD d true=false→Region.lS md ops i n d=true:=fun d hm hun=>by
    refine hd d hm ?_
    by_cases hjk:j=d
    ·subst hjk;exact hjun
    ·rw [getD_set_ne true hjk] at hun;exact hun
   refine wpOp_mono (fun a' w' h3=>⟨h3.2.1,ih (listed.setIfInBounds j true) a' w' hfree' (hc.set hj) hd' (ready_mono hr (Ne.symm hji)) h3.1 (h3.2.1 hjd hS) ?_⟩) h2
   rw [Array.setIfInBounds_comm _ _ hji]
   exact h3.2.2
theorem zB {i:Nat} {oi:Oper} {v:Value} (hi:ops[i]?=some oi) (hsel:∀ (j:Nat) (o:Oper) cs b,ops[j]?=some o→o.op≠ .select cs b)
  (hQ:∀ c a w,Q (.panic c) (a.put oi.dst v) w→Q (.panic c) a w):
  ∀ (fuel:Nat) (listed:Array Bool) (a:Act) (w:World),
   (∀ j oj,ops[j]?=some oj→j≠i→listed.getD j true=false→(∀ e∈oj.after,Region.binds md e=true→e.on≠i)→oi.apart ops oj=true)→
   i∈Region.ready md ops listed→Yields P ops oi v a→
   bK P md ops Q S ds fuel (listed.setIfInBounds i true) (a.put oi.dst v) w→bK P md ops Q S ds (fuel+1) listed a w:=by
 intro fuel
 induction fuel with
 |zero=>
  intro listed a w _ hr hy H
  refine ⟨fun h=>(by rw [h] at hr;cases hr),fun j hj=>?_⟩
  by_cases hji:j=i
  ·subst hji;exact (hy.yieldsIf (S:=fun _=>True)).wpOp hi trivial ⟨fun _ h=>h,H⟩
  ·have:=ready_mono hj hji
   rw [H.1] at this
   cases this
 |succ fuel ih=>
  intro listed a w hfree hr hy H
  refine ⟨fun h=>(by rw [h] at hr;cases hr),fun j hj=>?_⟩
  by_cases hji:j=i
  ·subst hji;exact (hy.yieldsIf (S:=fun _=>True)).wpOp hi trivial ⟨fun _ h=>h,H⟩
  ·have h1:=H.2 j (ready_mono hj hji)
   obtain ⟨hjun,oj,hoj,hall⟩:=mem_ready.1 hj
   have hiun:=(mem_ready.1 hr).1
   have hnot:∀ e∈oj.after,Region.binds md e=true→e.on≠i:=fun e he hb heq=>by
    have h1:=hall e he hb
    rw [heq] at h1
    rcases Nat.lt_or_ge i listed.size with h'|h'
    ·simp [h'] at hiun h1;rw [hiun] at h1;cases h1
    ·simp [Array.getElem?_eq_none h'] at h1
   have h2:=wpOp_put hoj (hfree j oj hoj hji hjun hnot) (fun cs b=>hsel i oi cs b hi) (fun cs b=>hsel j oj cs b hoj) hQ hy h1
   have hfree':∀ k ok,ops[k]?=some ok→k≠i→(listed.setIfInBounds j true).getD k true=false→
     (∀ e∈ok.after,Region.binds md e=true→e.on≠i)→oi.apart ops ok=true:=fun k ok hk hki hun hno=>by
    refine hfree k ok hk hki ?_ hno
    by_cases hjk:j=k
    ·subst hjk;exact hjun
    ·rw [getD_set_ne true hjk] at hun;exact hun
   refine wpOp_mono (fun a' w' h3=>⟨h3.2.1,ih (listed.setIfInBounds j true) a' w' hfree' (ready_mono hr (Ne.symm hji)) h3.1 ?_⟩) h2
   rw [Array.setIfInBounds_comm _ _ hji]
   exact h3.2.2
theorem uR {i:Nat} {oi:Oper} {v:Value} {fuel:Nat} {listed:Array Bool} {a:Act} {w:World} (hi:ops[i]?=some oi)
  (hs:Region.noSelect ops=true) (hf:Region.free md ops listed i=true) (hr:(Region.ready md ops listed).contains i=true)
  (hc:Region.CV md ops listed=true) (hl:Region.ZM md ops listed ds i=true)
  (hQ:∀ c a w,Q (.panic c) (a.put oi.dst v) w→Q (.panic c) a w) (hy:YieldsIf P ops S oi v a) (hS:S w)
  (h:bK P md ops Q S ds fuel (listed.setIfInBounds i true) (a.put oi.dst v) w):bK P md ops Q S ds (fuel+1) listed a w:=
 uC hi (Region.noSelect_spec hs) hQ ops.size fuel listed a w (Region.free_spec hi hf) (Region.BN hc)
  (fun d hm hun=>by have:=List.all_eq_true.1 hl d hm;rw [hun] at this;simpa using this) (by simpa using hr) hy hS h
theorem zJ {rs:List Nat} {fuel:Nat} {listed:Array Bool} {a:Act} {w:World} (hr:Region.ready md ops listed=rs) (hne:rs≠ [])
  (h:∀ i∈rs,wpOp P ops Q i (fun a' w'=>(i∉ds→S w→S w')∧bK P md ops Q S ds fuel (listed.setIfInBounds i true) a' w') a w):bK P md ops Q S ds (fuel+1) listed a w:=
 ⟨fun h0=>absurd (hr▸h0) hne,hr▸h⟩
theorem vZ {listed:Array Bool} {a:Act} {w:World} (hr:Region.ready md ops listed= []) (h:Q .normal a w):
  ∀ fuel,bK P md ops Q S ds fuel listed a w
 |0=>⟨hr,h⟩
 |_+1=>⟨fun _=>h,by rw [hr];simp⟩
theorem xN {id:Nat} {a:Act} {w:World} (hm:P.follows .mixedOrders=true)
  (h:bK P .any ops Q S ds ops.size (Array.replicate ops.size false) a { w with drawn:=w.drawn+1 }):(Code.region id ops true).wp P Q a w:=
 wp_region_any hm (pP _ _ _ _ h)
end
section
variable {P:Program} {ops:Array Oper} {Q:Exit→Act→World→Prop} {md:Region.Mode} {S:World→Prop} {ds:List Nat}
def dG (P:Program) (md:Region.Mode) (ops:Array Oper) (Q:Exit→Act→World→Prop) (S:World→Prop) (ds:List Nat) (fuel:Nat) (listed:Array Bool) (a:Act) (w:World) (rs:List Nat):Prop:=
 ∀ i∈rs,wpOp P ops Q i (fun a' w'=>(i∉ds→S w→S w')∧bK P md ops Q S ds fuel (listed.setIfInBounds i true) a' w') a w
theorem dG.nil {fuel:Nat} {listed:Array Bool} {a:Act} {w:World} :dG P md ops Q S ds fuel listed a w []:=fun _ h=>by cases h
theorem dG.cons {fuel:Nat} {listed:Array Bool} {a:Act} {w:World} {i:Nat} {o:Oper} {rs:List Nat} (ho:ops[i]?=some o) (hd:i∉ds)
  (h:∀ K':Act→World→Prop,Shut (∀ a w,S w→(S w→bK P md ops Q S ds fuel (listed.setIfInBounds i true) a w)→K' a w)→if Region.wanted o (yielded ops a.tmps)=true then Oper.wp P o a w K' Q else K' (a.put o.dst undef) w)
  (hs:dG P md ops Q S ds fuel listed a w rs):dG P md ops Q S ds fuel listed a w (i :: rs):=fun j hj=>by
 rcases List.mem_cons.1 hj with rfl|hj
 ·exact wpOp_step ho (fun K' hK=>h K' (fun a w hS hW=>hK a w ⟨fun _ _=>hS,hW hS⟩))
 ·exact hs j hj
theorem dG.OK {fuel:Nat} {listed:Array Bool} {a:Act} {w:World} {i:Nat} {o:Oper} {rs:List Nat} (ho:ops[i]?=some o) (hd:i∈ds)
  (h:∀ K':Act→World→Prop,Shut (∀ a w,bK P md ops Q S ds fuel (listed.setIfInBounds i true) a w→K' a w)→if Region.wanted o (yielded ops a.tmps)=true then Oper.wp P o a w K' Q else K' (a.put o.dst undef) w)
  (hs:dG P md ops Q S ds fuel listed a w rs):dG P md ops Q S ds fuel listed a w (i :: rs):=fun j hj=>by
 rcases List.mem_cons.1 hj with rfl|hj
 ·exact wpOp_step ho (fun K' hK=>h K' (fun a w hW=>hK a w ⟨fun hn=>absurd hd hn,hW⟩))
 ·exact hs j hj
theorem jV {rs:List Nat} {fuel:Nat} {listed:Array Bool} {a:Act} {w:World} (hr:Region.ready md ops listed=rs) (hne:rs≠ [])
  (h:dG P md ops Q S ds fuel listed a w rs):bK P md ops Q S ds (fuel+1) listed a w:=zJ hr hne h
theorem dB {id n:Nat} {a:Act} {w:World} (l:Array Bool) (hm:P.follows .mixedOrders=true) (hn:ops.size=n) (hl:Array.replicate n false=l) (hS:S w.drew)
  (h:S w.drew→bK P .any ops Q S ds n l a w.drew):(Code.region id ops true).wp P Q a w:=by
 subst hn
 subst hl
 exact xN hm (h hS)
def UW (md:Region.Mode) (ops:Array Oper) (ds:List Nat) (l l':Array Bool) (i:Nat):Bool:=
 Region.noSelect ops&&Region.free md ops l i&&(Region.ready md ops l).contains i&&Region.CV md ops l&&Region.ZM md ops l ds i&&(l.setIfInBounds i true==l')
theorem RL {i:Nat} {N:Option Tmp} {oi:Oper} {v:Value} {fuel:Nat} {l:Array Bool} {a:Act} {w:World} (l':Array Bool) (hi:ops[i]?=some oi) (hN:oi.dst=N) (hc:UW md ops ds l l' i=true)
  (hQ:∀ c a w,Q (.panic c) (a.put oi.dst v) w→Q (.panic c) a w) (hy:YieldsIf P ops S oi v a) (hS:S w) {a':Act} (ha:a.put N v=a')
  (h:bK P md ops Q S ds fuel l' a' w):bK P md ops Q S ds (fuel+1) l a w:=by
 subst ha
 subst hN
 simp only [UW,Bool.and_eq_true,beq_iff_eq] at hc
 obtain ⟨⟨⟨⟨⟨h1,h2⟩,h3⟩,h4⟩,h5⟩,h6⟩:=hc
 subst h6
 exact uR hi h1 h2 h3 h4 h5 hQ hy hS h
def anyB (md:Region.Mode) (ops:Array Oper) (l l':Array Bool) (i:Nat):Bool:=
 Region.noSelect ops&&Region.free md ops l i&&(Region.ready md ops l).contains i&&(l.setIfInBounds i true==l')
theorem pure_ {i:Nat} {N:Option Tmp} {oi:Oper} {v:Value} {fuel:Nat} {l:Array Bool} {a:Act} {w:World} (l':Array Bool) (hi:ops[i]?=some oi) (hN:oi.dst=N) (hc:anyB md ops l l' i=true)
  (hQ:∀ c a w,Q (.panic c) (a.put oi.dst v) w→Q (.panic c) a w) (hy:Yields P ops oi v a) {a':Act} (ha:a.put N v=a')
  (h:bK P md ops Q S ds fuel l' a' w):bK P md ops Q S ds (fuel+1) l a w:=by
 subst ha
 subst hN
 simp only [anyB,Bool.and_eq_true,beq_iff_eq] at hc
 obtain ⟨⟨⟨h1,h2⟩,h3⟩,h6⟩:=hc
 subst h6
 exact zB hi (Region.noSelect_spec h1) hQ fuel l a w (Region.free_spec hi h2) (by simpa using h3) hy h
def uW (md:Region.Mode) (ops:Array Oper) (l l':Array Bool) (i:Nat):Bool:=(Region.ready md ops l== [i])&&(l.setIfInBounds i true==l')
theorem one_ {i:Nat} {N:Option Tmp} {oi:Oper} {fuel:Nat} {l:Array Bool} {a:Act} {w:World} (l':Array Bool) (hi:ops[i]?=some oi) (hN:oi.dst=N) (hc:uW md ops l l' i=true) (hd:i∉ds)
  (h:∀ K:Act→World→Prop,Shut (∀ a' w',S w'→(S w'→bK P md ops Q S ds fuel l' a' w')→K a' w')→if Region.wanted oi (yielded ops a.tmps)=true then Oper.wp P oi a w K Q else K (a.put N undef) w):
  bK P md ops Q S ds (fuel+1) l a w:=by
 subst hN
 simp only [uW,Bool.and_eq_true,beq_iff_eq] at hc
 obtain ⟨h1,h2⟩:=hc
 subst h2
 exact jV h1 (by simp) (dG.cons hi hd (fun K hK=>h K hK) dG.nil)
theorem fX {i:Nat} {N:Option Tmp} {oi:Oper} {fuel:Nat} {l:Array Bool} {a:Act} {w:World} (l':Array Bool) (hi:ops[i]?=some oi) (hN:oi.dst=N) (hc:uW md ops l l' i=true) (hd:i∈ds)
  (h:∀ K:Act→World→Prop,Shut (∀ a' w',bK P md ops Q S ds fuel l' a' w'→K a' w')→if Region.wanted oi (yielded ops a.tmps)=true then Oper.wp P oi a w K Q else K (a.put N undef) w):
  bK P md ops Q S ds (fuel+1) l a w:=by
 subst hN
 simp only [uW,Bool.and_eq_true,beq_iff_eq] at hc
 obtain ⟨h1,h2⟩:=hc
 subst h2
 exact jV h1 (by simp) (dG.OK hi hd (fun K hK=>h K hK) dG.nil)
theorem eO {l:Array Bool} {a:Act} {w:World} {n:Nat} (hr:(Region.ready md ops l== [])=true) (h:Q .normal a w):bK P md ops Q S ds n l a w:=vZ (by simpa using hr) h n
theorem WS {i j:Nat} {Ni Nj:Option Tmp} {oi oj:Oper} {fuel:Nat} {l:Array Bool} {a:Act} {w:World} (li lj:Array Bool) (hi:ops[i]?=some oi) (hj:ops[j]?=some oj) (hNi:oi.dst=Ni) (hNj:oj.dst=Nj)
  (hc:(Region.ready md ops l== [i,j]&&l.setIfInBounds i true==li&&l.setIfInBounds j true==lj)=true) (hdi:i∉ds) (hdj:j∉ds)
  (h1:∀ K:Act→World→Prop,Shut (∀ a' w',S w'→(S w'→bK P md ops Q S ds fuel li a' w')→K a' w')→if Region.wanted oi (yielded ops a.tmps)=true then Oper.wp P oi a w K Q else K (a.put Ni undef) w)
  (h2:∀ K:Act→World→Prop,Shut (∀ a' w',S w'→(S w'→bK P md ops Q S ds fuel lj a' w')→K a' w')→if Region.wanted oj (yielded ops a.tmps)=true then Oper.wp P oj a w K Q else K (a.put Nj undef) w):
  bK P md ops Q S ds (fuel+1) l a w:=by
 subst hNi
 subst hNj
 simp only [Bool.and_eq_true,beq_iff_eq] at hc
 obtain ⟨⟨h3,h4⟩,h5⟩:=hc
 subst h4
 subst h5
 exact jV h3 (by simp) (dG.cons hi hdi (fun K hK=>h1 K hK) (dG.cons hj hdj (fun K hK=>h2 K hK) dG.nil))
def iX:Act→List (Tmp × Value)→Act
 |a,[]=>a
 |a,(n,v) :: r=>iX (a.put (some n) v) r
theorem RA {σ:Type} {fuel:Nat} {l:Array Bool} {a:Act} {w:World} (fuel':Nat) (l':Array Bool) (ns:σ→List (Tmp × Value)) (F:σ→World→Prop)
  (hcont:∀ s w',F s w'→bK P md ops Q S ds fuel' l' (iX a (ns s)) w')
  (h:(∀ s w',F s w'→bK P md ops Q S ds fuel' l' (iX a (ns s)) w')→bK P md ops Q S ds fuel l a w):bK P md ops Q S ds fuel l a w:=h hcont
theorem nJ {fuel:Nat} {l:Array Bool} {a a':Act} {w:World} (ha:a=a') (h:bK P md ops Q S ds fuel l a' w):bK P md ops Q S ds fuel l a w:=by
 subst ha
 exact h
theorem call_ {oi:Oper} {N:Option Tmp} {a:Act} {w:World} {K:Act→World→Prop} (f:FuncId) (args:Array Value) (hw:Region.wanted oi (yielded ops a.tmps)=true) (hN:oi.dst=N) (hrun:(execOp a.eval oi).run P w= .ok (.enter f args) w)
  (h:Calls P f args w fun e w'=>∃ v,e= .returned v∧K (a.put N v) w'):if Region.wanted oi (yielded ops a.tmps)=true then Oper.wp P oi a w K Q else K (a.put N undef) w:=by
 rw [if_pos hw]
 subst hN
 unfold Oper.wp
 rw [hrun,Oper.upon_enter]
 refine h.mono fun e w'' hh=>?_
 obtain ⟨v,rfl,hk⟩:=hh
 exact hk
theorem X8 {f:FuncId} {fn:Func} (hf:P.funcs[f]?=some fn) (hname:(fn.name== "runtime.NumGoroutine")=false) (hb:fn.body.isSome=true) (args:Array Value) (w:World):(callFunc f args).run P w= .ok (.enter f args) w:=by
 have h1:fn.name≠ "runtime.NumGoroutine" :=by simpa using hname
 obtain ⟨c,hc⟩:=Option.isSome_iff_exists.1 hb
 simp [callFunc,hf,h1,hc]
theorem goes_ {oi:Oper} {N:Option Tmp} {a:Act} {w:World} {K:Act→World→Prop} {f:FuncId} {fn:Func} {ar0:Array Operand} {ts:Array TypeId} (hf:P.funcs[f]?=some fn) (hname:(fn.name== "runtime.NumGoroutine")=false) (hb:fn.body.isSome=true) (args:Array Value)
  (hw:Region.wanted oi (yielded ops a.tmps)=true) (hN:oi.dst=N) (hop:oi.op= .call { callee:= .value (.func f),args:=ar0,argTypes:=ts }) (hargs:ar0.map a.eval=args)
  (h:Calls P f args w fun e w'=>∃ v,e= .returned v∧K (a.put N v) w'):if Region.wanted oi (yielded ops a.tmps)=true then Oper.wp P oi a w K Q else K (a.put N undef) w:=by
 refine call_ f args hw hN ?_ h
 have he:=X8 hf hname hb args w
 unfold execOp
 simp [hop,resolve,Deferred.ofValue,invoke,Act.eval,hargs,he]
theorem jX {oi:Oper} {N:Option Tmp} {a:Act} {w w1:World} {v:Value} {K:Act→World→Prop} (hw:Region.wanted oi (yielded ops a.tmps)=true) (hN:oi.dst=N) (hrun:(execOp a.eval oi).run P w= .ok (.value v) w1)
  (h:K (a.put N v) w1):if Region.wanted oi (yielded ops a.tmps)=true then Oper.wp P oi a w K Q else K (a.put N undef) w:=by
 rw [if_pos hw]
 subst hN
 unfold Oper.wp
 rw [hrun]
 exact h
theorem iH {oi:Oper} {a:Act} {w w1:World} {K:Act→World→Prop} (hw:Region.wanted oi (yielded ops a.tmps)=true) (hN:oi.dst=none) (hrun:(execOp a.eval oi).run P w= .ok .skip w1)
  (h:K a w1):if Region.wanted oi (yielded ops a.tmps)=true then Oper.wp P oi a w K Q else K (a.put none undef) w:=by
 rw [if_pos hw]
 unfold Oper.wp
 rw [hrun]
 show K (a.put oi.dst undef) w1
 rw [hN]
 exact h
theorem GD (n:Int):IntKind.i64.wrap n=Go.RowKit.wrap64 n:=by unfold Go.RowKit.wrap64;exact IntKind.wrap_i64 n
theorem EW (n:Int):IntKind.i32.wrap n=Go.RowKit.wrap32 n:=by unfold Go.RowKit.wrap32;exact IntKind.wrap_i32 n
end
theorem drew_ {w:World} {b:Nat} {o:Obj} (h:w.heap[b]?=some o):w.drew.heap[b]?=some o:=h
section
variable {P:Program} {ops:Array Oper} {Q:Exit→Act→World→Prop} {md:Region.Mode} {S:World→Prop} {ds:List Nat}
theorem pur_ (i n:Nat) {v:Value} {oi:Oper} {fuel:Nat} {l l':Array Bool} {a a':Act} {w:World} (h:bK P md ops Q S ds fuel l' a' w)
  (hi:ops[i]?=some oi:=by exact rfl) (hN:oi.dst=some n:=by exact rfl) (hl:l.setIfInBounds i true=l':=by (simp only [List.setIfInBounds_toArray,List.set_cons_zero,List.set_cons_succ];rfl))
  (hc:anyB md ops l l' i=true:=by kernel_rfl) (hQ:∀ c a w,Q (.panic c) (a.put oi.dst v) w→Q (.panic c) a w:=by exact fun _ _ _ h=>h) (hw:Region.wanted oi (yielded ops a.tmps)=true:=by rfl)
  (hr:∀ w,(execOp a.eval oi).run P w= .ok (.value v) w:=by (intro w';go_simp;with_reducible rfl))
  (ha:a.put (some n) v=a':=by (simp only [Act.put,List.setIfInBounds_toArray,List.set_cons_zero,List.set_cons_succ,GD,EW];rfl)):bK P md ops Q S ds (fuel+1) l a w:=
 pure_ l' hi hN hc hQ (Or.inl ⟨hw,hr⟩) ha h
theorem tak_ (i n:Nat) (v:Value) {oi:Oper} {fuel:Nat} {l l':Array Bool} {a a':Act} {w:World} (hr:∀ w,S w→(execOp a.eval oi).run P w= .ok (.value v) w) (hS:S w) (h:bK P md ops Q S ds fuel l' a' w)
  (hi:ops[i]?=some oi:=by exact rfl) (hN:oi.dst=some n:=by exact rfl) (hl:l.setIfInBounds i true=l':=by (simp only [List.setIfInBounds_toArray,List.set_cons_zero,List.set_cons_succ];rfl))
  (hc:UW md ops ds l l' i=true:=by kernel_rfl) (hQ:∀ c a w,Q (.panic c) (a.put oi.dst v) w→Q (.panic c) a w:=by exact fun _ _ _ h=>h) (hw:Region.wanted oi (yielded ops a.tmps)=true:=by rfl)
  (ha:a.put (some n) v=a':=by (simp only [Act.put,List.setIfInBounds_toArray,List.set_cons_zero,List.set_cons_succ,GD,EW];rfl)):bK P md ops Q S ds (fuel+1) l a w:=
 RL l' hi hN hc hQ (Or.inl ⟨hw,hr⟩) hS ha h
theorem on_ (i n:Nat) {oi:Oper} {fuel:Nat} {l l':Array Bool} {a:Act} {w:World}
  (h:∀ K:Act→World→Prop,Shut (∀ a' w',S w'→(S w'→bK P md ops Q S ds fuel l' a' w')→K a' w')→if Region.wanted oi (yielded ops a.tmps)=true then Oper.wp P oi a w K Q else K (a.put (some n) undef) w)
  (hi:ops[i]?=some oi:=by exact rfl) (hN:oi.dst=some n:=by exact rfl) (hl:l.setIfInBounds i true=l':=by (simp only [List.setIfInBounds_toArray,List.set_cons_zero,List.set_cons_succ];rfl))
  (hc:uW md ops l l' i=true:=by kernel_rfl) (hd:i∉ds:=by decide):bK P md ops Q S ds (fuel+1) l a w:=one_ l' hi hN hc hd h
theorem goe_ {oi:Oper} {N:Option Tmp} {a:Act} {w:World} {K:Act→World→Prop} {f:FuncId} {fn:Func} {ar0:Array Operand} {ts:Array TypeId} (hf:P.funcs[f]?=some fn) (args:Array Value)
  (h:Calls P f args w fun e w'=>∃ v,e= .returned v∧K (a.put N v) w') (hname:(fn.name== "runtime.NumGoroutine")=false:=by kernel_rfl) (hb:fn.body.isSome=true:=by exact rfl)
  (hw:Region.wanted oi (yielded ops a.tmps)=true:=by rfl) (hN:oi.dst=N:=by exact rfl) (hop:oi.op= .call { callee:= .value (.func f),args:=ar0,argTypes:=ts } :=by exact rfl)
  (hargs:ar0.map a.eval=args:=by ((try simp only [List.map_toArray,List.map_cons,List.map_nil]);first|done|rfl)):if Region.wanted oi (yielded ops a.tmps)=true then Oper.wp P oi a w K Q else K (a.put N undef) w:=
 goes_ hf hname hb args hw hN hop hargs h
theorem nor_ {fuel:Nat} {l:Array Bool} {a a':Act} {w:World} (h:bK P md ops Q S ds fuel l a' w) (ha:a=a':=by (simp only [Act.put,List.setIfInBounds_toArray,List.set_cons_zero,List.set_cons_succ,GD,EW];rfl)):bK P md ops Q S ds fuel l a w:=nJ ha h
end
end Go.Proofs.YtjopodnlffaogaaGreatDoorW.PrintLast
end
section
namespace Go.Proofs.YtjopodnlffaogaaGreatDoorW.PrintMore
open Go.RowKit Go.Proofs.YtjopodnlffaogaaGreatDoorW.PrintWords
namespace Kd
open Go.Proofs.YtjopodnlffaogaaGreatDoorW.PrintWords.Kd
end Kd
namespace Kd
open Go.Proofs.YtjopodnlffaogaaGreatDoorW.PrintWords.Kd
end Kd
theorem aU (k k':IntKind) (x y:Int):Builtin.max2 (.int k x) (.int k' y)=pure (.int k (if x<y then y else x)):=by simp only [Builtin.max2,gt_iff_lt]
theorem aQ (k k':IntKind) (x y:Int):Builtin.min2 (.int k x) (.int k' y)=pure (.int k (if y<x then y else x)):=by simp only [Builtin.min2]
theorem aY (ats:Array TypeId) (ty:TypeId) (a b:Value):Builtin.max_ ats ty #[a,b]=(Builtin.max2 a b >>=fun s=>pure s):=by simp only [Builtin.max_,List.foldlM_cons,List.foldlM_nil]
theorem aX (ats:Array TypeId) (ty:TypeId) (a b:Value):Builtin.min_ ats ty #[a,b]=(Builtin.min2 a b >>=fun s=>pure s):=by simp only [Builtin.min_,List.foldlM_cons,List.foldlM_nil]
theorem aI (ats:Array TypeId) (ty:TypeId) (a b c:Value):Builtin.max_ ats ty #[a,b,c]=(Builtin.max2 a b >>=fun s=>Builtin.max2 s c >>=fun s=>pure s):=by simp only [Builtin.max_,List.foldlM_cons,List.foldlM_nil]
theorem aJ (ats:Array TypeId) (ty:TypeId) (a b c:Value):Builtin.min_ ats ty #[a,b,c]=(Builtin.min2 a b >>=fun s=>Builtin.min2 s c >>=fun s=>pure s):=by simp only [Builtin.min_,List.foldlM_cons,List.foldlM_nil]
theorem aT (ats:Array TypeId) (ty:TypeId) (a b c d:Value):Builtin.max_ ats ty #[a,b,c,d]=(Builtin.max2 a b >>=fun s=>Builtin.max2 s c >>=fun s=>Builtin.max2 s d >>=fun s=>pure s):=by simp only [Builtin.max_,List.foldlM_cons,List.foldlM_nil]
theorem aN (ats:Array TypeId) (ty:TypeId) (a b c d:Value):Builtin.min_ ats ty #[a,b,c,d]=(Builtin.min2 a b >>=fun s=>Builtin.min2 s c >>=fun s=>Builtin.min2 s d >>=fun s=>pure s):=by simp only [Builtin.min_,List.foldlM_cons,List.foldlM_nil]
end Go.Proofs.YtjopodnlffaogaaGreatDoorW.PrintMore
namespace Go.Proofs.YtjopodnlffaogaaGreatDoorW.PrintWords
open Go.RowKit
section
variable {P:Program} {ops:Array Oper} {rest:List Oper} {o:Oper} {a:Act} {Q:Exit→Act→World→Prop} {W:World}
theorem dT {b:Builtin} {xs:Array Operand} {ts:Array TypeId} (_ho:o.op= .call { callee:= .builtin b,args:=xs,argTypes:=ts }) (h:wpList P ops Q (o :: rest) a W):wpList P ops Q (o :: rest) a W:=h
end
def mx (a b:Int):Int:=if a<b then b else a
namespace Kd
end Kd
end Go.Proofs.YtjopodnlffaogaaGreatDoorW.PrintWords
namespace Go.Proofs.YtjopodnlffaogaaGreatDoorW.PrintWords
open Go.RowKit
namespace Kd
end Kd
end Go.Proofs.YtjopodnlffaogaaGreatDoorW.PrintWords
end
section
namespace Go.Proofs.YtjopodnlffaogaaGreatDoor.Tp
open Go.RowKit Go.Proofs.YtjopodnlffaogaaGreatDoorW.PrintWords Go.Proofs.YtjopodnlffaogaaGreatDoorW.PrintLast Go.Proofs.YtjopodnlffaogaaGreatDoorW.PrintMore
attribute [local go_sem] aU aQ aY aX aI aJ aT aN
structure Mod (S:Nat→Prop) (w w':World):Prop where
 os:w'.os=w.os
 tape:w'.tape=w.tape
 output:w'.output=w.output
 size:w.heap.size≤w'.heap.size
 block:∀ i,i<w.heap.size→¬ S i→w'.heap[i]?=w.heap[i]?
namespace Mod
variable {S T:Nat→Prop} {w w1 w2:World}
theorem refl (S:Nat→Prop) (w:World):Mod S w w:=⟨rfl,rfl,rfl,Nat.le_refl _,fun _ _ _=>rfl⟩
theorem trans (h:Mod S w w1) (k:Mod T w1 w2) (hT:∀ i,i<w.heap.size→T i→S i):Mod S w w2:=
 ⟨k.os.trans h.os,k.tape.trans h.tape,k.output.trans h.output,Nat.le_trans h.size k.size,fun i hi hn=>(k.block i (Nat.lt_of_lt_of_le hi h.size) (fun ht=>hn (hT i hi ht))).trans (h.block i hi hn)⟩
theorem mono (h:Mod S w w1) (hT:∀ i,i<w.heap.size→S i→T i):Mod T w w1:=(refl T w).trans h hT
theorem jE (h:Below w.heap.size w w1):Mod (fun _=>False) w w1:=⟨h.os,h.tape,h.output,h.size,fun i hi _=>h.block i hi⟩
theorem below (h:Mod S w w1) {B:Nat} (hB:∀ i,S i→B≤i) (hle:B≤w.heap.size):Below B w w1:=⟨h.os,h.tape,h.output,h.size,fun i hi=>h.block i (by omega) (fun hs=>by have:=hB i hs;omega)⟩
theorem step (h:Mod S w w1) (k:Below w1.heap.size w1 w2):Mod S w w2:=h.trans (jE k) (fun _ _ hf=>hf.elim)
theorem alloc (h:Mod S w w1) (o:Obj):Mod S w (w1.alloc o):=h.step (aD (Below.refl _ _) o)
theorem drew (h:Mod S w w1):Mod S w w1.drew:=h.step (bG (Below.refl _ _))
theorem drewN (h:Mod S w w1) (n:Nat):Mod S w (w1.drewN n):=h.step (aH (Below.refl _ _) n)
theorem setCell (h:Mod S w w1) {p:Addr} (hp:S p.block) (v:Value):Mod S w (w1.setCell p v):=
 h.trans (T:=fun i=>i=p.block) ⟨rfl,rfl,rfl,by simp,fun i _ hn=>Below.heap_setCell w1 p v i hn⟩ (fun _ _ he=>he▸hp)
theorem drawn (h:Mod S w w1) (k:bS w1 w2):Mod S w w2:=h.step k.below
theorem bI (h:Mod S w w1) {g:Nat} {o:Obj} (hb:w.heap[g]?=some o) (hg:¬ S g):w1.heap[g]?=some o:=(h.block g (aZ hb) hg).trans hb
theorem cell (h:Mod S w w1) {p:Addr} (hp:p.block<w.heap.size) (hn:¬ S p.block):w1.cell? p=w.cell? p:=by
 unfold World.cell?
 rw [h.block p.block hp hn]
end Mod
def bL (n:Nat) (z:Value):Array Value:=(List.replicate n z).toArray
theorem pO (z:Value) (n:Nat):madeCells #[z] (n*1)=bL n z:=by
 unfold madeCells bL
 apply Array.ext
 ·simp
 ·intro i h1 h2
  simp
  rw [Nat.mod_one];rfl
theorem dN {P:Program} (t e:TypeId) (z:Value) (b:Nat) (ht:P.underlying t=some (.slice e)) (hinfo:(P.info? e).map (fun i=>(i.zero,i.size,i.bytes))=some (some z,1,b)) (hz:z.cells=#[z]) (hb0:b≤4096)
  (n:Nat) (hn:n≤4294967296) (w:World):
  (Instr.makeSlice t (.int .i64 (n:Int)) (.int .i64 (n:Int))).run P w= .ok (.slice (some ⟨w.heap.size,0,none⟩) n n) (w.alloc (.cells (bL n z) e)):=by
 obtain ⟨i0,hi,hzz⟩:=Option.map_eq_some_iff.1 hinfo
 simp only [Prod.mk.injEq] at hzz
 obtain ⟨hz0,hz1,hz2⟩:=hzz
 have h3:i0.bytes*n≤4096*4294967296:=Nat.mul_le_mul (by omega) hn
 have hr:=run_make (P:=P) w t e i0 z ht hi hz0 .i64 .i64 (n:Int) (n:Int) (by omega) (by omega) (by
  have:((i0.bytes*n:Nat):Int)≤281474976710656:=by omega
  rwa [Int.natCast_mul] at this) (by omega)
 rw [hz1,hz] at hr
 simp only [Int.toNat_natCast,pO] at hr
 exact hr
theorem sI {P:Program} (t e:TypeId) (z:Value) (k b:Nat) (ht:P.underlying t=some (.slice e)) (hinfo:(P.info? e).map (fun i=>(i.zero,i.size,i.bytes))=some (some z,k,b)) (hb0:b≤4096)
  (n:Nat) (hn:n≤4294967296) (w:World):
  (Instr.makeSlice t (.int .i64 (n:Int)) (.int .i64 (n:Int))).run P w= .ok (.slice (some ⟨w.heap.size,0,none⟩) n n) (w.alloc (.cells (madeCells z.cells (n*k)) e)):=by
 obtain ⟨i0,hi,hzz⟩:=Option.map_eq_some_iff.1 hinfo
 simp only [Prod.mk.injEq] at hzz
 obtain ⟨hz0,hz1,hz2⟩:=hzz
 have h3:i0.bytes*n≤4096*4294967296:=Nat.mul_le_mul (by omega) hn
 have hr:=run_make (P:=P) w t e i0 z ht hi hz0 .i64 .i64 (n:Int) (n:Int) (by omega) (by omega) (by
  have:((i0.bytes*n:Nat):Int)≤281474976710656:=by omega
  rwa [Int.natCast_mul] at this) (by omega)
 rw [hz1] at hr
 simp only [Int.toNat_natCast] at hr
 exact hr
section
variable {α:Type} {d:Kd α} {e:Nat} {W W1:World} {base:Nat} {ok:Nat→Prop} {v:Value} {xs:List α} {g t:Nat} {cells:Array Value}
theorem YB (h:d.R e W base ok v xs) (hb:W.heap[g]?=some (.cells cells t (0,0))) (ht:∀ q,q∈e :: d.E→q≠t):some g≠v.ownBlock:=by
 intro he
 obtain ⟨_,_,_,q,hq,cs,hh⟩:=(Kd.eW h).1 g he.symm
 rw [hb] at hh
 cases hh
 exact ht _ hq rfl
theorem R_ne2 (h:d.R e W base ok v xs) {o:Obj} (hb:W.heap[g]?=some o) (hn:∀ c q f,o≠ .cells c q f):some g≠v.ownBlock:=by
 intro he
 obtain ⟨_,_,_,q,hq,cs,hh⟩:=(Kd.eW h).1 g he.symm
 rw [hb] at hh
 exact hn _ _ _ (Option.some.inj hh)
theorem j9 (h:d.R e W base ok v xs) (hg:W.grownBy W1 v.ownBlock) (hb:W.heap[g]?=some (.cells cells t (0,0))) (ht:∀ q,q∈e :: d.E→q≠t):W1.heap[g]?=some (.cells cells t (0,0)):=gA hb hg (YB h hb ht)
theorem iT {S:Nat→Prop} (h:d.R e W base ok v xs) (hm:Mod S W W1) (hS:∀ q,S q→∃ c t,W.heap[q]?=some (.cells c t (0,0))∧∀ y,y∈e :: d.E→y≠t):d.R e W1 base ok v xs:=
 Kd.fB (Kd.eD (Kd.eW h) (fun k hk hlt=>hm.block k hlt (fun hs=>by
  obtain ⟨_,_,_,q,hq,cs,hh⟩:=hk
  obtain ⟨c,t,hc,ht⟩:=hS k hs
  rw [hh] at hc
  cases hc
  exact ht _ hq rfl))) (fun _ hk=>hk.1)
theorem Mod.qT {S:Nat→Prop} {w w1:World} {g:Nat} {cs:Array Value} {t:TypeId} (h:Mod S w w1) (hb:w.heap[g]?=some (.cells cs t (0,0))) (hS:∀ q,S q→∃ c t',w.heap[q]?=some (.cells c t' (0,0))∧t≠t'):w1.heap[g]?=some (.cells cs t (0,0)):=
 h.bI hb (fun hs=>by
  obtain ⟨c,t',hc,ht⟩:=hS g hs
  rw [hb] at hc
  cases hc
  exact ht rfl)
theorem Y4 {β:Type} {d':Kd β} {e' base':Nat} {ok':Nat→Prop} {v':Value} {ys:List β} (h:d.R e W base ok v xs) (h':d'.R e' W base' ok' v' ys) (hg:W.grownBy W1 v'.ownBlock) (ht:∀ q,q∈e :: d.E→∀ q',q'∈e' :: d'.E→q'≠q):d.R e W1 base ok v xs:=
 Kd.fB (Kd.eD (Kd.eW h) (fun k hk hlt=>by
  obtain ⟨_,_,_,q,hq,cs,hh⟩:=hk
  exact hg.block k hlt (YB h' hh (ht q hq)))) (fun _ hk=>hk.1)
end
theorem eM {w:World} {b:Nat} {t:TypeId} {c0 c1 c2 c3 c4 c5:Value} (h:w.heap[b]?=some (.cells #[c0,c1,c2,c3,c4,c5] t (0,0))):w.cell? ⟨b,0,none⟩=some c0∧w.cell? ⟨b,1,none⟩=some c1∧w.cell? ⟨b,2,none⟩=some c2∧w.cell? ⟨b,3,none⟩=some c3∧w.cell? ⟨b,4,none⟩=some c4∧w.cell? ⟨b,5,none⟩=some c5:=
 have k:=fun i=>aC h i
 ⟨k 0,k 1,k 2,k 3,k 4,k 5⟩
theorem fW {w:World} {b:Nat} {t:TypeId} {c0 c1 c2 c3 c4 c5:Value} (h:w.heap[b]?=some (.cells #[c0,c1,c2,c3,c4,c5] t (0,0))):w.cell? ⟨b,0,none⟩=some c0∧w.frozen? ⟨b,0,none⟩=false∧w.cell? ⟨b,1,none⟩=some c1∧w.frozen? ⟨b,1,none⟩=false∧w.cell? ⟨b,2,none⟩=some c2∧w.frozen? ⟨b,2,none⟩=false∧w.cell? ⟨b,3,none⟩=some c3∧w.frozen? ⟨b,3,none⟩=false∧w.cell? ⟨b,4,none⟩=some c4∧w.frozen? ⟨b,4,none⟩=false∧w.cell? ⟨b,5,none⟩=some c5∧w.frozen? ⟨b,5,none⟩=false:=
 have k:=fun i=>aC h i
 have f:=fun i=>aG h i
 ⟨k 0,f 0,k 1,f 1,k 2,f 2,k 3,f 3,k 4,f 4,k 5,f 5⟩
theorem gJ {w:World} {b:Nat} {t:TypeId} {c0 c1 c2 c3 c4 c5 c6:Value} (h:w.heap[b]?=some (.cells #[c0,c1,c2,c3,c4,c5,c6] t (0,0))):w.cell? ⟨b,0,none⟩=some c0∧w.cell? ⟨b,1,none⟩=some c1∧w.cell? ⟨b,2,none⟩=some c2∧w.cell? ⟨b,3,none⟩=some c3∧w.cell? ⟨b,4,none⟩=some c4∧w.cell? ⟨b,5,none⟩=some c5∧w.cell? ⟨b,6,none⟩=some c6:=
 have k:=fun i=>aC h i
 ⟨k 0,k 1,k 2,k 3,k 4,k 5,k 6⟩
theorem fP {w:World} {b:Nat} {t:TypeId} {c0 c1 c2 c3 c4 c5 c6:Value} (h:w.heap[b]?=some (.cells #[c0,c1,c2,c3,c4,c5,c6] t (0,0))):w.cell? ⟨b,0,none⟩=some c0∧w.frozen? ⟨b,0,none⟩=false∧w.cell? ⟨b,1,none⟩=some c1∧w.frozen? ⟨b,1,none⟩=false∧w.cell? ⟨b,2,none⟩=some c2∧w.frozen? ⟨b,2,none⟩=false∧w.cell? ⟨b,3,none⟩=some c3∧w.frozen? ⟨b,3,none⟩=false∧w.cell? ⟨b,4,none⟩=some c4∧w.frozen? ⟨b,4,none⟩=false∧w.cell? ⟨b,5,none⟩=some c5∧w.frozen? ⟨b,5,none⟩=false∧w.cell? ⟨b,6,none⟩=some c6∧w.frozen? ⟨b,6,none⟩=false:=
 have k:=fun i=>aC h i
 have f:=fun i=>aG h i
 ⟨k 0,f 0,k 1,f 1,k 2,f 2,k 3,f 3,k 4,f 4,k 5,f 5,k 6,f 6⟩
end Go.Proofs.YtjopodnlffaogaaGreatDoor.Tp
end
section
namespace Go.Proofs.YtjopodnlffaogaaGreatDoor.Abs
def Ex.conc:Ex→Exit
 | .normal=> .normal
 | .exit id=> .exit id
 | .ret=> .ret
def Po (P:Program) (G:Nat) (D:List Deferred) (ρ:Rn) (a:A) (w:World) (e:Ex) (t':Fr) (a':A):Exit→Act→World→Prop:=fun E c' w'=>
 E=e.conc∧∃ σ,yA P G D σ t' a' c' w'∧St P (fun b=>a.next≤b) ρ a w σ a' w'∧a.next≤a'.next
theorem Po.trans {P:Program} {G:Nat} {D:List Deferred} {ρ σ:Rn} {a a1 a':A} {w w1:World} {e:Ex} {t':Fr} {E:Exit} {c':Act} {w':World} (h:St P (fun b=>a.next≤b) ρ a w σ a1 w1) (hn:a.next≤a1.next) (k:Po P G D σ a1 w1 e t' a' E c' w'):Po P G D ρ a w e t' a' E c' w':=by
 obtain ⟨h1,τ,h2,h3,h4⟩:=k
 exact ⟨h1,τ,h2,h.trans (h3.wide fun b hb=>Nat.le_trans hn hb),Nat.le_trans hn h4⟩
theorem yA.drew {P:Program} {G:Nat} {D:List Deferred} {ρ:Rn} {t:Fr} {a:A} {c:Act} {w:World} (h:yA P G D ρ t a c w):yA P G D ρ t a c w.drew:=⟨⟨h.rel.obj,h.rel.inj⟩,h.new,h.gl,h.tr,h.df⟩
section
variable {P:Program} {G:Nat} {D:List Deferred} {call:Callee}
def eC (P:Program) (G:Nat) (D:List Deferred) (cd:Code) (x:C):Prop:=∀ {t t':Fr} {a a':A} {e:Ex} {ρ:Rn} {c:Act} {w:World},x t a=some (e,t',a')→yA P G D ρ t a c w→cd.wp P (Po P G D ρ a w e t' a') c w
theorem OY (hc:bV P G call) (hm:P.follows .mixedOrders=true) {id:Nat} {ops:Array Oper} {draw:Bool} (hok:(ops.all fun o=>o.op.operands.all (N7 G))=true):eC P G D (.region id ops draw) (nG P call ops draw):=by
 intro t t' a a' e ρ c w h hS
 have hok':∀ o∈ops.toList,J9 G o=true:=fun o ho=>Array.all_eq_true_iff_forall_mem.1 hok o (by simpa using ho)
 unfold nG at h
 cases draw with
 |false=>
  rw [cond_false] at h
  split at h
  ·rename_i t1 a1 h1
   cases h
   exact wp_region_list (KV hc ops ops.toList hok' hS h1 fun σ c' w' k1 k2 k3=>⟨rfl,σ,k1,k2,k3⟩)
  ·cases h
 |true=>
  rw [cond_true] at h
  split at h
  ·rename_i t1 a1 h1
   cases h
   unfold L8 at h1
   split at h1
   ·rename_i hsel
    refine wp_region_any hm (vK _ [] _ _ _ ?_)
    have hst:Std P G D ops a.next ρ a w ρ (Array.replicate ops.size false) t ⟨a.next+ops.size,a.t⟩ c w.drew:=by
     have hd:=hS.drew
     refine ⟨⟨qX hd.rel _,fun b hb=>hS.new b (Nat.le_trans (Nat.le_add_right _ _) hb),hS.gl,hS.tr,hS.df⟩,?_,Nat.le_refl _,fun i _ _=>hS.new _ (Nat.le_add_right _ _),hS.new⟩
     exact ⟨fun _ _=>⟨rfl,rfl⟩,qX hd.rel _,Md.drew _ w,fun c hc=> .inl hc,fun c hc=> .inl hc⟩
    exact LL hc hok' hsel _ (fun ch c w hq=>by cases hq.1) _ (kP.start _) hst (fun p hp=>by cases hp) (fun p hp=>by cases hp) h1 (fun σ c' w' k1 k2 k3=>⟨rfl,σ,k1,k2,k3⟩)
   ·cases h1
  ·cases h
theorem seq_ok {x y:Code} {cx cy:C} (hx:eC P G D x cx) (hy:eC P G D y cy):eC P G D (.seq x y) (wW cx cy):=by
 intro t t' a a' e ρ c w h hS
 unfold wW at h
 split at h
 ·rename_i t1 a1 h1
  refine wp_seq (Go.wp_mono (hx h1 hS) ?_)
  rintro E c1 w1 ⟨rfl,σ,k1,k2,k3⟩
  exact Go.wp_mono (hy h k1) fun E c2 w2 hp=>Po.trans k2 k3 hp
 ·rename_i hne
  refine wp_seq (Go.wp_mono (hx h hS) ?_)
  rintro E c1 w1 ⟨rfl,hp⟩
  cases e with
  |normal=>exact absurd h (hne _ _)
  |exit id=>exact ⟨rfl,hp⟩
  |ret=>exact ⟨rfl,hp⟩
theorem W6 {cnd:Operand} {x y:Code} {cx cy:C} (hg:N7 G cnd=true) (hx:eC P G D x cx) (hy:eC P G D y cy):eC P G D (.cond cnd x y) (z7 cnd cx cy):=by
 intro t t' a a' e ρ c w h hS
 have hv:VR ρ (ev t cnd) (c.eval cnd):=by
  cases cnd with
  |tmp i=>exact hS.tr.get i
  |const v=>exact VR.flat (v:=v) (by simpa [N7] using hg)
  |global g=>exact .ptr (hS.gl g (by simpa [N7,Nat.blt_eq] using hg))
  |func f=>exact .flat rfl
 unfold z7 at h
 split at h
 ·rename_i hb
  rw [hb] at hv
  exact wp_cond_true hv.jR (hx h hS)
 ·rename_i hb
  rw [hb] at hv
  exact wp_cond_false hv.jR (hy h hS)
 ·cases h
theorem UU {id:Nat} {x:Code} {cx:C} (hx:eC P G D x cx):eC P G D (.block id x) (rS id cx):=by
 intro t t' a a' e ρ c w h hS
 unfold rS at h
 split at h
 ·rename_i id' t1 a1 h1
  split at h
  ·rename_i hid
   cases h
   refine wp_block (Go.wp_mono (hx h1 hS) ?_)
   rintro E c1 w1 ⟨rfl,hp⟩
   have:=Nat.eq_of_beq_eq_true hid
   show Exit.inBlock id _ (.exit id') c1 w1
   simp only [Exit.inBlock,if_pos this]
   exact ⟨rfl,hp⟩
  ·rename_i hid
   cases h
   refine wp_block (Go.wp_mono (hx h1 hS) ?_)
   rintro E c1 w1 ⟨rfl,hp⟩
   have hne:¬ id'=id:=fun e=>by rw [e,Nat.beq_refl] at hid;cases hid
   show Exit.inBlock id _ (.exit id') c1 w1
   simp only [Exit.inBlock,if_neg hne]
   exact ⟨rfl,hp⟩
 ·rename_i hne
  refine wp_block (Go.wp_mono (hx h hS) ?_)
  rintro E c1 w1 ⟨rfl,hp⟩
  cases e with
  |normal=>exact ⟨rfl,hp⟩
  |exit id=>exact absurd h (hne _ _ _)
  |ret=>exact ⟨rfl,hp⟩
theorem sR {x:Code} {Q R:Exit→Act→World→Prop} (h:∀ e a w,Q e a w→R e a w):∀ (n:Nat) {a:Act} {w:World},Code.rounds P x Q n a w→Code.rounds P x R n a w
 |0,_,_,hh=>hh
 |n+1,a,w,hh=>by
  rw [rounds_succ] at hh ⊢
  refine Go.wp_mono hh fun e a w hq=>?_
  cases e with
  |normal=>exact sR h n hq
  |_=>exact h _ _ _ hq
theorem AG {x:Code} {cx:C} (hx:eC P G D x cx):∀ (n:Nat) {t t':Fr} {a a':A} {e:Ex} {ρ:Rn} {c:Act} {w:World},rounds cx n t a=some (e,t',a')→yA P G D ρ t a c w→Code.rounds P x (Po P G D ρ a w e t' a') n c w
 |0,t,t',a,a',e,ρ,c,w,h,hS=>by cases h
 |n+1,t,t',a,a',e,ρ,c,w,h,hS=>by
  rw [rounds_succ]
  change (match cx t a with|some (.normal,t',a')=>rounds cx n t' a'|r=>r)=_ at h
  split at h
  ·rename_i t1 a1 h1
   refine Go.wp_mono (hx h1 hS) ?_
   rintro E c1 w1 ⟨rfl,σ,k1,k2,k3⟩
   have:=AG hx n h k1
   refine sR ?_ n this
   exact fun E c2 w2 hp=>Po.trans k2 k3 hp
  ·rename_i hne
   refine Go.wp_mono (hx h hS) ?_
   rintro E c1 w1 ⟨rfl,hp⟩
   cases e with
   |normal=>exact absurd h (hne _ _)
   |exit id=>exact ⟨rfl,hp⟩
   |ret=>exact ⟨rfl,hp⟩
theorem dP (hc:bV P G call) (hm:P.follows .mixedOrders=true) (lf:Nat):∀ (cd:Code),codeOk G cd=true→eC P G D cd (code P call lf cd)
 | .skip,_=>fun h hS=>by
  cases h
  exact wp_skip ⟨rfl,_,hS,St.refl hS.rel,Nat.le_refl _⟩
 | .region id ops draw,hok=>OY hc hm (by simpa only [codeOk] using hok)
 | .seq x y,hok=>by
  simp only [codeOk,Bool.and_eq_true] at hok
  exact seq_ok (dP hc hm lf x hok.1) (dP hc hm lf y hok.2)
 | .cond cnd x y,hok=>by
  simp only [codeOk,Bool.and_eq_true] at hok
  exact W6 hok.1.1 (dP hc hm lf x hok.1.2) (dP hc hm lf y hok.2)
 | .block id x,hok=>by
  simp only [codeOk] at hok
  exact UU (dP hc hm lf x hok)
 | .loop x,hok=>fun h hS=>by
  simp only [codeOk] at hok
  exact wp_loop_rounds lf (AG (dP hc hm lf x hok) lf h hS)
 | .rangeFunc _ _ _ _,_=>fun h hS=>by cases h
 | .exit id,_=>fun h hS=>by
  cases h
  exact wp_exit ⟨rfl,_,hS,St.refl hS.rel,Nat.le_refl _⟩
 | .scope _,_=>fun h hS=>by cases h
 | .label l,_=>fun h hS=>by
  cases h
  exact wp_label ⟨rfl,_,hS,St.refl hS.rel,Nat.le_refl _⟩
 | .goto _,_=>fun h hS=>by cases h
 | .ret,_=>fun h hS=>by
  cases h
  exact wp_ret ⟨rfl,_,hS,St.refl hS.rel,Nat.le_refl _⟩
 | .refuse _,_=>fun h hS=>by cases h
end
def W4 (c:Array Value) (r:ResultVar):Sem Value:=
 match r with
 | .tmp t=>pure (c.getD t undef)
 | .cell x ty=>do loadVar ty (← asAddr (c.getD x undef))
theorem nD {P:Program} {σ:Rn} {t:Fr} {a:A} {c:Array Value} {w:World} (hR:Rel P σ a w) (hT:TR σ t c):∀ {l:List ResultVar} {vs:List Value},iB P t a l=some vs→
  ∃ ws,LR σ vs ws∧(l.mapM (W4 c)).run P w= .ok ws w
 | [],vs,h=>by
  simp [iB] at h;subst h
  exact ⟨[],.nil,rfl⟩
 | .tmp x :: l,vs,h=>by
  simp only [iB] at h
  split at h
  ·rename_i us hu
   cases h
   obtain ⟨ws,h1,h2⟩:=nD hR hT hu
   exact ⟨_,.cons (hT.get x) h1,by simp only [List.mapM_cons,W4,Sem.run_bind,Sem.run_pure,Result.andThen_ok,h2]⟩
  ·cases h
 | .cell x ty :: l,vs,h=>by
  simp only [iB] at h
  split at h
  ·rename_i v fs us hl hu
   cases h
   obtain ⟨ws,h1,h2⟩:=nD hR hT hu
   have hload:=LV hR (hT.get x) hl
   obtain ⟨cv,L,v1,v2,v3,v4⟩:=hload
   have hrun:=v4 w v3
   have hx:=hT.get x
   have hptr:∃ p,c.getD x undef= .pointer (some p):=by
    unfold xC at hl
    split at hl
    ·rename_i b o he
     rw [he] at hx
     obtain ⟨q,hq,_⟩:=hx.gT
     exact ⟨_,hq⟩
    ·cases hl
   obtain ⟨p,hp⟩:=hptr
   refine ⟨cv :: ws,.cons v1 h1,?_⟩
   rw [hp] at hrun
   have he:(W4 c (.cell x ty)).run P w= .ok cv w:=by
    show (Sem.run P (do loadVar ty (← asAddr (c.getD x undef)):Sem Value) w)=_
    rw [hp]
    exact hrun
   rw [List.mapM_cons,Sem.run_bind,he]
   simp only [Result.andThen_ok,Sem.run_bind,h2,Sem.run_pure]
  ·cases h
theorem pX {P:Program} {σ:Rn} {t:Fr} {a:A} {c:Array Value} {w:World} (hR:Rel P σ a w) (hT:TR σ t c) {fn:Func} {vs:List Value} (h:iB P t a fn.results.toList=some vs):∃ cv,VR σ (uY vs) cv∧(results fn c).run P w= .ok cv w:=by
 obtain ⟨ws,h1,h2⟩:=nD hR hT h
 have hres:results fn c=(fn.results.mapM (W4 c) >>=fun vs=>pure (if h:vs.size=1 then vs[0] else .tuple vs)):=rfl
 have hrun:(results fn c).run P w= .ok (if h:ws.toArray.size=1 then ws.toArray[0] else .tuple ws.toArray) w:=by
  rw [hres,Array.mapM_eq_mapM_toList]
  simp only [Sem.run_bind,Sem.run_map,h2,Result.andThen_ok,Sem.run_pure]
 refine ⟨_,?_,hrun⟩
 cases h1 with
 |nil=>exact .flat rfl
 |cons hv ht=>
  cases ht with
  |nil=>exact hv
  |cons hv2 ht2=>
   rw [dif_neg (by simp)]
   exact .tuple (.cons hv (.cons hv2 ht2))
def Fit (P:Program) (G:Nat):Prop:=∀ (f:Nat) (fn:Func),P.funcs[f]?=some fn→RN G fn=true
theorem rQ {G:Nat} :∀ {l:List Func},zS G l=true→∀ fn∈l,RN G fn=true
 | [],_,fn,h=>by cases h
 |x :: l,h,fn,hm=>by
  have h2:(match RN G x with|true=>zS G l|false=>false)=true:=h
  split at h2
  ·rename_i hx
   rcases List.mem_cons.1 hm with rfl|hm
   ·exact hx
   ·exact rQ h2 fn hm
  ·cases h2
theorem fit_of {P:Program} {G k:Nat} (h1:zS G (P.funcs.toList.take k)=true) (h2:zS G (P.funcs.toList.drop k)=true):Fit P G:=fun f fn hf=>by
 have hm:fn∈P.funcs.toList:=by
  rw [← Array.getElem?_toList] at hf
  exact List.mem_of_getElem? hf
 rw [← List.take_append_drop k P.funcs.toList] at hm
 rcases List.mem_append.1 hm with hm|hm
 ·exact rQ h1 fn hm
 ·exact rQ h2 fn hm
theorem VH {P:Program} {G:Nat} {call:Callee} (hc:bV P G call) (hm:P.follows .mixedOrders=true) (hF:Fit P G) (lf:Nat):bV P G (gL P G lf call):=by
 intro f args a v a' h ρ w cargs hR hn hg hl
 unfold gL at h
 split at h
 ·cases h
 ·rename_i fn hf
  split at h
  ·cases h
  ·rename_i cd hb
   split at h
   ·rename_i hq
    have hfn:=hF f fn hf
    unfold RN at hfn
    rw [hb] at hfn
    simp only [] at hfn
    have q1:codeOk G cd=true:=by
     cases hcd:codeOk G cd with
     |true=>rfl
     |false=>rw [hcd] at hfn;cases hfn
    rw [q1] at hfn
    have q2:=Nat.le_of_ble_eq_true hfn
    have q3:=Nat.le_of_ble_eq_true hq
    have htr:=FW hl fn.ntmps q2 q3
    have hS:yA P G [] ρ (kF fn.ntmps args) a { tmps:=cargs++Array.replicate (fn.ntmps - cargs.size) undef,defers:= [] } w:=⟨hR,hn,hg,htr,rfl⟩
    refine calls_of_wp hf hb ?_
    unfold leave at h
    split at h
    ·cases h
    ·rename_i e t1 a1 hx hcode
     split at h
     ·rename_i vs hvs
      cases h
      refine Go.wp_mono (dP hc hm lf cd q1 hcode hS) ?_
      rintro E c1 w1 ⟨rfl,σ,k1,k2,k3⟩
      obtain ⟨cv,r1,r2⟩:=pX k1.rel k1.tr hvs
      have hfin:c1.defers= []∧∃ v,(results fn c1.tmps).run P w1= .ok v w1∧(∃ cv σ,Ending.returned v= .returned cv∧VR σ (uY vs) cv∧St P (fun b=>a.next≤b) ρ a w σ a' w1∧D6 σ a'.next∧a.next≤a'.next):=⟨k1.df,cv,r2,cv,σ,rfl,r1,k2,k1.new,k3⟩
      cases e with
      |normal=>exact hfin
      |ret=>exact hfin
      |exit id=>exact absurd rfl (hx _)
     ·cases h
    ·cases h
   ·cases h
theorem qB {P:Program} {G:Nat} {I:Callee} (hI:bV P G I) (hm:P.follows .mixedOrders=true) (hF:Fit P G) (lf:Nat):∀ n,bV P G (run P G I lf n)
 |0=>fun f args a v a' h=>by cases h
 |n+1=>fun f args a v a' h=>by
  change (match I f args a with|some r=>some r|none=>gL P G lf (run P G I lf n) f args a)=_ at h
  split at h
  ·rename_i r hr
   cases h
   exact hI f args a v a' hr
  ·exact VH (qB hI hm hF lf n) hm hF lf f args a v a' h
end Go.Proofs.YtjopodnlffaogaaGreatDoor.Abs
end
section
namespace Go.Proofs.YtjopodnlffaogaaGreatDoorW.PrintLast
open Go.Proofs.YtjopodnlffaogaaGreatDoorW.PrintWords (aA)
section
variable {md:Region.Mode} {ops:Array Oper} {T:Bool × List (List Nat × List Nat)} {l l' li lj lk:Array Bool} {ds:List Nat} {i j k:Nat}
theorem gd (l:Array Bool) (j:Nat) (b:Bool):l.getD j b=l.toList.getD j b:=by simp [Array.getD_eq_getD_getElem?,List.getD_eq_getElem?_getD]
end
end Go.Proofs.YtjopodnlffaogaaGreatDoorW.PrintLast
end
section
namespace Go.Proofs.YtjopodnlffaogaaGreatDoor.Tp
open Go.RowKit Go.Proofs.YtjopodnlffaogaaGreatDoorW.PrintWords Go.Proofs.YtjopodnlffaogaaGreatDoorW.PrintLast Go.Proofs.YtjopodnlffaogaaGreatDoorW.PrintMore
attribute [local go_sem] aU aQ aY aX aI aJ aT aN
abbrev fT (g m first n:Nat):Array Value:=#[.slice (some ⟨g,0,none⟩) m m,.int .i64 (first:Int),.int .i64 (n:Int)]
def cU (xs:List Int):Array Value:=(xs.map (Value.int .u32)).toArray
theorem jM (xs:List Int) (i:Nat) (h:i<xs.length):(cU xs)[i]?=some (.int .u32 (xs.getD i 0)):=by simp [cU,h]
theorem kJ (xs:List Int) (i:Nat) (v:Int):(cU xs).setIfInBounds i (.int .u32 v)=cU (xs.set i v):=by
 unfold cU;simp [List.map_set]
theorem cD (x:Int) (n:Nat) (h:x=(n:Int)) (hn:n≤4611686018427387904):IntKind.i64.wrap x=(n:Int):=by
 subst h;exact IntWalk.i64_in _ (by omega)
theorem xJ (b g m first n:Nat) (w:World) (hb:w.heap[b]?=some (.cells (fT g m first n) 284 (0,0))) (hn:n≤m) (hm:m≤4096):
  Calls Tryz.prog 132 #[.pointer (some ⟨b,0,none⟩)] w fun e w'=>e= .returned (.int .i64 ((m - n:Nat):Int))∧bS w w':=by
 have c0:=(aC hb 0).trans rfl
 have c2:=(aC hb 2).trans rfl
 have hs:IntKind.i64.wrap ((m:Int) - (n:Int))=((m - n:Nat):Int):=cD _ _ (by omega) (by omega)
 clear hb hn hm
 go_enter Tryz.func132,Tryz.ntmps132
 go_wp2
 go_quiet (fail)
 go_wp2
 go_ret
 exact ⟨rfl,⟨⟨_,rfl⟩⟩⟩
theorem GH (b g m first n i:Nat) (w:World) (hb:w.heap[b]?=some (.cells (fT g m first n) 284 (0,0))) (h0:0<m) (hm:m≤4096) (hf:first≤4096) (hi:i≤4096):
  Calls Tryz.prog 206 #[.pointer (some ⟨b,0,none⟩),.int .i64 (i:Int)] w fun e w'=>e= .returned (.int .i64 (((first+i) % m:Nat):Int))∧bS w w':=by
 have c0:=(aC hb 0).trans rfl
 have c1:=(aC hb 1).trans rfl
 have hs:IntKind.i64.wrap ((first:Int)+(i:Int))=((first+i:Nat):Int):=cD _ _ (by omega) (by omega)
 have hr:((first+i:Nat):Int).tmod (m:Int)=(((first+i) % m:Nat):Int):=rfl
 have hz:¬ (m:Int)=0:=by omega
 have hz1:((m:Int)==0)=false:=beq_eq_false_iff_ne.mpr hz
 clear hb hf hi hm h0
 go_enter Tryz.func206,Tryz.ntmps206
 go_wp2
 go_quiet (fail)
 go_wp2
 go_ret
 exact ⟨rfl,⟨⟨_,rfl⟩⟩⟩
theorem yY (m:Nat) (w:World) (hm:m≤4096):
  Calls Tryz.prog 168 #[.int .i64 (m:Int)] w fun e w'=>e= .returned (.pointer (some ⟨w.heap.size+1,0,none⟩))∧w'=(w.alloc (.cells (bL m (.int .u32 0)) 22)).alloc (.cells (fT w.heap.size m 0 0) 284):=by
 have hmk:=fun (W:World)=>dN (P:=Tryz.prog) 33 22 (.int .u32 0) 4 Tryz.underlying33 (by kernel_rfl) rfl (by decide) m (by omega) W
 have hmx:max (m:Int) 0=(m:Int):=by omega
 have hmn:min (m:Int) 4096=(m:Int):=by omega
 clear hm
 go_enter Tryz.func168,Tryz.ntmps168
 go_wp2
 go_ret
 exact ⟨rfl,rfl⟩
theorem zW (b g m first n:Nat) (xs:List Int) (v:Int) (w:World) (hb:w.heap[b]?=some (.cells (fT g m first n) 284 (0,0))) (hg:w.heap[g]?=some (.cells (cU xs) 22 (0,0))) (hx:xs.length=m) (hn:n<m) (hm:m≤4096) (hf:first<m):
  Calls Tryz.prog 170 #[.pointer (some ⟨b,0,none⟩),.int .u32 v] w fun e w'=>e= .returned (.bool true)∧Mod (fun k=>k=b∨k=g) w w'∧w'.heap[b]?=some (.cells (fT g m first (n+1)) 284 (0,0))∧w'.heap[g]?=some (.cells (cU (xs.set ((first+n) % m) v)) 22 (0,0)):=by
 have P:=aA.mk (fun (W:World) (h:W.heap[b]?=some (.cells (fT g m first n) 284 (0,0)))=>GH b g m first n n W h (by omega) hm (by omega) (by omega))
 have hj:(first+n) % m<m:=Nat.mod_lt _ (by omega)
 generalize (first+n) % m=j at P hj ⊢
 have hne:b≠g:=aK hb hg (by decide)
 have B0:=aA.mk hb
 have B1:=aA.mk hg
 have ht:(((m - n:Nat):Int)==0)=false:=beq_eq_false_iff_ne.mpr (by omega)
 have hs:IntKind.i64.wrap ((n:Int)+1)=((n+1:Nat):Int):=cD _ _ (by omega) (by omega)
 have R0:=aA.mk (fun (W:World) (h:W.heap[b]?=some (.cells (fT g m first n) 284 (0,0)))=>xJ b g m first n W h (by omega) hm)
 have hm1:(m:Int)≤4096:=by omega
 have hj1:(j:Int)<(m:Int):=by omega
 have HX:=aA.mk hx
 have HJ:=aA.mk hj
 clear hb hg hn hf hj hm hx
 go_enter Tryz.func170,Tryz.ntmps170
 go_wp2_with (go_at_call 132;refine (R0.out _ B0.out).mono ?_;rintro e w1 ⟨rfl,hd⟩;have HM:=aA.mk (((Mod.refl (fun k=>k=b∨k=g) w)).drawn hd);have n0:=aA.mk (aE B0.out hd.below);have n1:=aA.mk (aE B1.out hd.below);clear B0 B1 hd)

 refine dB (n:=13) (S:=fun w'=>w'.heap[b]?=some (.cells (fT g m first n) 284 (0,0))∧w'.heap[g]?=some (.cells (cU xs) 22 (0,0))) (ds:= [12]) #[false,false,false,false,false,false,false,false,false,false,false,false,false] (by kernel_rfl) rfl rfl ⟨n0.out,n1.out⟩ (fun hHeld=>?_)
 replace n0:=aA.mk (drew_ n0.out)
 replace n1:=aA.mk (drew_ n1.out)
 replace HM:=aA.mk (HM.out.drew)
 generalize w1.drew=w2 at n0 n1 HM hHeld ⊢
 refine pur_ 0 8 ?_
 refine pur_ 1 9 ?_
 refine pur_ 2 10 ?_
 refine pur_ 4 12 ?_
 refine pur_ 5 13 ?_
 refine pur_ 6 14 ?_
 refine pur_ 7 15 ?_
 refine pur_ 10 18 ?_
 refine tak_ 3 11 (.slice (some ⟨g,0,none⟩) m m) ?_ hHeld ?_
 ·intro w' hS
  have c0:=(aC hS.1 0).trans rfl
  clear hHeld hS
  go_simp
 refine tak_ 8 16 (.int .i64 (n:Int)) ?_ hHeld ?_
 ·intro w' hS
  have c2:=(aC hS.1 2).trans rfl
  clear hHeld hS
  go_simp
 refine on_ 9 17 (fun K hK=>?_)
 refine goe_ Tryz.func206 #[.pointer (some ⟨b,0,none⟩),.int .i64 (n:Int)] ?_
 refine (P.out _ n0.out).mono ?_
 rintro e w9 ⟨rfl,hd⟩
 have hb:=hd.below
 clear hd
 refine ⟨_,rfl,?_⟩
 replace n0:=aA.mk (aE n0.out hb)
 replace n1:=aA.mk (aE n1.out hb)
 replace HM:=aA.mk (HM.out.step hb)
 clear hb hHeld
 refine hK.out _ _ ⟨n0.out,n1.out⟩ (fun hHeld=>?_)
 clear hK K
 refine nor_ ?_
 refine pur_ 11 19 ?_
 refine fX (i:=12) (N:=none) #[true,true,true,true,true,true,true,true,true,true,true,true,true] rfl rfl (by kernel_rfl) (by decide) (fun K hK=>?_)
 refine iH (w1:=w9.setCell ⟨g,j,none⟩ (.int .u32 v)) (by rfl) rfl ?_ ?_
 ·clear hK hHeld
  have cj:=(aC n1.out j).trans (jM xs j (by rw [HX.out];exact HJ.out))
  have fj:=aG n1.out j
  go_simp
 replace n0:=aA.mk (bB (p:=⟨g,j,none⟩) n0.out hne (.int .u32 v))
 replace n1:=aA.mk ((bE n1.out j (.int .u32 v)).trans (by rw [kJ]))
 replace HM:=aA.mk (HM.out.setCell (p:=⟨g,j,none⟩) (Or.inr rfl) (.int .u32 v))
 clear hHeld
 generalize w9.setCell ⟨g,j,none⟩ (.int .u32 v)=w3 at n0 n1 HM ⊢
 refine hK.out _ _ ?_
 clear hK K
 refine eO (by kernel_rfl) ?_
 have c2:=(aC n0.out 2).trans rfl
 have f2:=aG n0.out 2
 go_wp2
 go_ret
 exact ⟨rfl,HM.out.setCell (p:=⟨b,2,none⟩) (Or.inl rfl) _,(bE n0.out 2 _).trans rfl,bB (p:=⟨b,2,none⟩) n1.out hne.symm _⟩
section
variable {P:Program} {f:FuncId} {fn:Func}
theorem yG (hf:P.funcs[f]?=some fn) (hname:(fn.name== "runtime.NumGoroutine")=false) (hb:fn.body.isNone=true) (hn:Extern.findNext fn=none) (k:IntKind)
  (he:Extern.find fn=some (Extern.Atomic.swapT (.int k))) {a:Addr} {x y:Int} {w:World} (hc:w.cell? a=some (.int k x)) (hz:w.frozen? a=false):
  (callFunc f #[.pointer (some a),.int k y]).run P w= .ok (.value (.int k x)) (w.setCell a (.int k y)):=by
 rw [run_callFunc_extern hf hname hb hn he]
 change (Sem.run P (do
  let a' ← asAddr (.pointer (some a))
  let old ← Extern.Atomic.read (.int k) a'
  store a' (.int k y) .atomic
  pure old) w).andThen _=_
 simp [Extern.Atomic.read,asAddr,hc,hz,run_store P w a (.int k y) .atomic rfl,Result.andThen]
end
abbrev dD (g n:Nat):Array Value:=#[.slice (some ⟨g,0,none⟩) n n]
theorem ZJ (a:Addr) (x:Int) (w:World) (hc:w.cell? a=some (.int .u32 x)):Calls Tryz.prog 217 #[.pointer (some a)] w fun e w'=>e= .returned (.int .u32 x)∧w=w':=by
 have hl:=run_call_load (P:=Tryz.prog) Tryz.func246 (by kernel_rfl) (by kernel_rfl) (by kernel_rfl) .u32 (by kernel_rfl) hc
 go_enter Tryz.func217,Tryz.ntmps217
 go_wp2
 go_ret
 exact ⟨rfl,rfl⟩
theorem U0 (a:Addr) (x y:Int) (w:World) (hc:w.cell? a=some (.int .u32 x)) (hz:w.frozen? a=false):Calls Tryz.prog 207 #[.pointer (some a),.int .u32 y] w fun e w'=>e= .returned (.tuple #[])∧w'=w.setCell a (.int .u32 y):=by
 have hl:=run_call_store (P:=Tryz.prog) Tryz.func242 (by kernel_rfl) (by kernel_rfl) (by kernel_rfl) (by kernel_rfl) (k:= .u32) (y:=y) hc hz
 go_enter Tryz.func207,Tryz.ntmps207
 go_wp2
 go_end0
 exact ⟨rfl,rfl⟩
theorem ZF (a:Addr) (x y:Int) (w:World) (hc:w.cell? a=some (.int .u32 x)) (hz:w.frozen? a=false):Calls Tryz.prog 218 #[.pointer (some a),.int .u32 y] w fun e w'=>e= .returned (.int .u32 x)∧w'=w.setCell a (.int .u32 y):=by
 have hl:=yG (P:=Tryz.prog) Tryz.func247 (by kernel_rfl) (by kernel_rfl) (by kernel_rfl) .u32 (by kernel_rfl) (y:=y) hc hz
 go_enter Tryz.func218,Tryz.ntmps218
 go_wp2
 go_ret
 exact ⟨rfl,rfl⟩
theorem FL (a:Addr) (x y:Int) (w:World) (hc:w.cell? a=some (.int .u32 x)) (hz:w.frozen? a=false):Calls Tryz.prog 219 #[.pointer (some a),.int .u32 x,.int .u32 y] w fun e w'=>e= .returned (.bool true)∧w'=w.setCell a (.int .u32 y):=by
 have hl:=run_call_cas_hit (P:=Tryz.prog) Tryz.func248 (by kernel_rfl) (by kernel_rfl) (by kernel_rfl) .u32 (by kernel_rfl) (y:=y) hc hz
 go_enter Tryz.func219,Tryz.ntmps219
 go_wp2
 go_ret
 exact ⟨rfl,rfl⟩
theorem NQ (a:Addr) (x o y:Int) (w:World) (hc:w.cell? a=some (.int .u32 x)) (hz:w.frozen? a=false) (hne:¬ x=o):Calls Tryz.prog 219 #[.pointer (some a),.int .u32 o,.int .u32 y] w fun e w'=>e= .returned (.bool false)∧w=w':=by
 have hl:=run_call_cas_miss (P:=Tryz.prog) Tryz.func248 (by kernel_rfl) (by kernel_rfl) (by kernel_rfl) .u32 (by kernel_rfl) (y:=y) hc hz hne
 clear hne
 go_enter Tryz.func219,Tryz.ntmps219
 go_wp2
 go_ret
 exact ⟨rfl,rfl⟩
theorem aAdd (a:Addr) (x y:Int) (w:World) (hc:w.cell? a=some (.int .u32 x)) (hz:w.frozen? a=false):Calls Tryz.prog 220 #[.pointer (some a),.int .u32 y] w fun e w'=>e= .returned (.int .u32 ((x+y) % 4294967296))∧w'=w.setCell a (.int .u32 ((x+y) % 4294967296)):=by
 have hl:=run_call_add (P:=Tryz.prog) Tryz.func249 (by kernel_rfl) (by kernel_rfl) (by kernel_rfl) .u32 (by kernel_rfl) (y:=y) (s:=(x+y) % 4294967296) hc hz (by simp [go_sem];rfl)
 go_enter Tryz.func220,Tryz.ntmps220
 go_wp2
 go_ret
 exact ⟨rfl,rfl⟩
theorem zD (n:Nat) (w:World) (h:n≤8192):Calls Tryz.prog 172 #[.int .i64 (n:Int)] w fun e w'=>e= .returned (.tuple #[.pointer (some ⟨w.heap.size+1,0,none⟩),.int .i64 0])∧w'=(w.alloc (.cells (bL n (.int .u32 0)) 314)).alloc (.cells (dD w.heap.size n) 310):=by
 have e0:decide ((n:Int)<0)=false:=decide_eq_false (by omega)
 have e1:decide (8192<(n:Int))=false:=decide_eq_false (by omega)
 have hmk:=fun (W:World)=>sI (P:=Tryz.prog) 308 314 (.agg #[.int .u32 0]) 1 4 Tryz.underlying308 (by kernel_rfl) (by decide) n (by omega) W
 have hz:madeCells (Value.agg #[.int .u32 0]).cells (n*1)=bL n (.int .u32 0):=pO _ _
 rw [hz] at hmk
 clear h hz
 go_enter Tryz.func172,Tryz.ntmps172
 go_wp2
 go_ret2
 exact ⟨rfl,rfl⟩
theorem Q2 (b g n i:Nat) (xs:List Int) (v:Int) (w:World) (hb:w.heap[b]?=some (.cells (dD g n) 310 (0,0))) (hg:w.heap[g]?=some (.cells (cU xs) 314 (0,0))) (hx:xs.length=n) (hi:i<n) (hn:n≤8192):
  Calls Tryz.prog 173 #[.pointer (some ⟨b,0,none⟩),.int .i64 (i:Int),.int .u32 v] w fun e w'=>e= .returned (.tuple #[])∧Mod (fun k=>k=g) w w'∧w'.heap[g]?=some (.cells (cU (xs.set i (v))) 314 (0,0)):=by
 have c0:=(aC hb 0).trans rfl
 have ci:=(aC hg i).trans (jM xs i (by omega))
 have fi:=aG hg i
 have i0:(0:Int)≤(i:Int):=by omega
 have i1:(i:Int)<(n:Int):=by omega
 have n1:(n:Int)≤8192:=by omega
 have HX:=aA.mk (⟨hb,hg,hx,hi⟩:w.heap[b]?=some (.cells (dD g n) 310 (0,0))∧w.heap[g]?=some (.cells (cU xs) 314 (0,0))∧xs.length=n∧i<n)
 have P:=aA.mk (U0 ⟨g,i,none⟩ _ v w ci fi)
 clear hb hg hx hi hn ci fi
 go_enter Tryz.func173,Tryz.ntmps173
 go_wp2_with (go_at_call 207;refine P.out.mono ?_;rintro e w1 ⟨rfl,rfl⟩)

 go_end0
 exact ⟨rfl,(Mod.refl (fun k=>k=g) w).setCell (p:=⟨g,i,none⟩) rfl _,(bE HX.out.2.1 i _).trans (by rw [kJ])⟩
theorem H4 (b g n i:Nat) (xs:List Int) (w:World) (hb:w.heap[b]?=some (.cells (dD g n) 310 (0,0))) (hg:w.heap[g]?=some (.cells (cU xs) 314 (0,0))) (hx:xs.length=n) (hi:i<n) (hn:n≤8192):
  Calls Tryz.prog 184 #[.pointer (some ⟨b,0,none⟩),.int .i64 (i:Int)] w fun e w'=>e= .returned (.int .u32 (xs.getD i 0))∧w=w':=by
 have c0:=(aC hb 0).trans rfl
 have ci:=(aC hg i).trans (jM xs i (by omega))
 have fi:=aG hg i
 have i0:(0:Int)≤(i:Int):=by omega
 have i1:(i:Int)<(n:Int):=by omega
 have n1:(n:Int)≤8192:=by omega
 have HX:=aA.mk (⟨hb,hg,hx,hi⟩:w.heap[b]?=some (.cells (dD g n) 310 (0,0))∧w.heap[g]?=some (.cells (cU xs) 314 (0,0))∧xs.length=n∧i<n)
 have P:=aA.mk (ZJ ⟨g,i,none⟩ _ w ci)
 clear hb hg hx hi hn ci fi
 go_enter Tryz.func184,Tryz.ntmps184
 go_wp2_with (go_at_call 217;refine P.out.mono ?_;rintro e w1 ⟨rfl,rfl⟩)

 go_ret
 exact ⟨rfl,rfl⟩
theorem cSwap (b g n i:Nat) (xs:List Int) (v:Int) (w:World) (hb:w.heap[b]?=some (.cells (dD g n) 310 (0,0))) (hg:w.heap[g]?=some (.cells (cU xs) 314 (0,0))) (hx:xs.length=n) (hi:i<n) (hn:n≤8192):
  Calls Tryz.prog 185 #[.pointer (some ⟨b,0,none⟩),.int .i64 (i:Int),.int .u32 v] w fun e w'=>e= .returned (.int .u32 (xs.getD i 0))∧Mod (fun k=>k=g) w w'∧w'.heap[g]?=some (.cells (cU (xs.set i (v))) 314 (0,0)):=by
 have c0:=(aC hb 0).trans rfl
 have ci:=(aC hg i).trans (jM xs i (by omega))
 have fi:=aG hg i
 have i0:(0:Int)≤(i:Int):=by omega
 have i1:(i:Int)<(n:Int):=by omega
 have n1:(n:Int)≤8192:=by omega
 have HX:=aA.mk (⟨hb,hg,hx,hi⟩:w.heap[b]?=some (.cells (dD g n) 310 (0,0))∧w.heap[g]?=some (.cells (cU xs) 314 (0,0))∧xs.length=n∧i<n)
 have P:=aA.mk (ZF ⟨g,i,none⟩ _ v w ci fi)
 clear hb hg hx hi hn ci fi
 go_enter Tryz.func185,Tryz.ntmps185
 go_wp2_with (go_at_call 218;refine P.out.mono ?_;rintro e w1 ⟨rfl,rfl⟩)

 go_ret
 exact ⟨rfl,(Mod.refl (fun k=>k=g) w).setCell (p:=⟨g,i,none⟩) rfl _,(bE HX.out.2.1 i _).trans (by rw [kJ])⟩
end Go.Proofs.YtjopodnlffaogaaGreatDoor.Tp
end
section
namespace Go.Proofs.YtjopodnlffaogaaGreatDoor.Abs
open Go.RowKit
theorem lies98:liesAt Tryz.prog Tryz.prog.depth 98 (2 / Tryz.prog.cellsOf 98) 0 98 1=true:=by kernel_rfl
theorem UQ:(Tryz.prog.info? 98).map (·.size)=some 2:=by kernel_rfl
theorem QZ (b:Nat) (w:World) (h0:w.cell? ⟨b,0,none⟩=some (.pointer none)) (hsh:w.shape? b=some (98,2)) (hfz:w.frozen? ⟨b,0,none⟩=false):
  Calls Tryz.prog 92 #[.pointer (some ⟨b,0,none⟩)] w fun e w'=>e= .returned (.tuple #[])∧w'=w.setCell ⟨b,0,none⟩ (.pointer (some ⟨b,0,none⟩)):=by
 obtain ⟨j,hj,hjs⟩:=Option.map_eq_some_iff.1 UQ
 go_enter Tryz.func92,Tryz.ntmps92
 go_wp2
 rw [Lib.run_to_unsafe w ⟨b,0,none⟩ Tryz.underlying96 Tryz.underlying244 hj (by rw [hjs];decide) hsh (Nat.zero_lt_succ 1)]
 simp only [Result.andThen]
 rw [Oper.upon_value]
 go_wp2
 rw [run_callFunc_extern Tryz.func148 (by kernel_rfl) (by kernel_rfl) (by kernel_rfl) (e:=Extern.AbiNoEscape.same) (by kernel_rfl)]
 rw [Lib.run_noEscape]
 simp only [Result.andThen]
 rw [Oper.upon_value]
 go_wp2
 rw [Lib.run_from_unsafe w ⟨b,0,none⟩ Tryz.underlying244 Tryz.underlying96 hj hsh lies98]
 simp only [Result.andThen]
 rw [Oper.upon_value]
 go_wp2
 go_end0
 exact ⟨rfl,rfl⟩
theorem Y0 (b:Nat) (w:World) (h0:w.cell? ⟨b,0,none⟩=some (.pointer (some ⟨b,0,none⟩))):
  Calls Tryz.prog 92 #[.pointer (some ⟨b,0,none⟩)] w fun e w'=>e= .returned (.tuple #[])∧w'=w:=by
 obtain ⟨j,hj,_⟩:=Option.map_eq_some_iff.1 UQ
 go_enter Tryz.func92,Tryz.ntmps92
 go_wp2
 rw [Lib.run_neq_ptr_same w _ Tryz.underlying96 hj]
 go_wp2
 go_end0
 exact ⟨rfl,rfl⟩
theorem PL.ZE {ρ:Rn} {x y u v:Value} {C:Array Value} (h:PL ρ [x,y] C.toList) (hs:C.size=2):∃ cx cy,C=#[cx,cy]∧VR ρ x cx∧VR ρ y cy:=by
 obtain ⟨p,r,h1,h2⟩:=h
 cases h2 with
 |cons hx ht=>
  cases ht with
  |cons hy ht2=>
   cases ht2
   rename_i cx cy
   refine ⟨cx,cy,?_,hx,hy⟩
   have hr:r= []:=by
    have hlen:=congrArg List.length h1
    simp only [Array.length_toList,hs,List.length_append,List.length_cons,List.length_nil] at hlen
    exact List.eq_nil_of_length_eq_zero (by omega)
   subst hr
   apply Array.toList_inj.1
   simpa using h1
theorem BP:bV Tryz.prog 12 (r9 92 98):=by
 intro f args a v a' h ρ w cargs hR hn hg hl
 unfold r9 at h
 split at h
 ·rename_i b hf
  obtain rfl:=Nat.eq_of_beq_eq_true hf
  obtain ⟨c,hc1,hc⟩:∃ c,cargs=#[.pointer (some ⟨c,0,none⟩)]∧ρ.bI b=some c:=by
   cases hl':cargs.toList with
   |nil=>rw [hl'] at hl;cases hl
   |cons x l=>
    rw [hl'] at hl
    cases hl with
    |cons hv ht=>
     cases ht
     obtain ⟨c,rfl,hc⟩:=hv.gT
     exact ⟨c,Array.toList_inj.1 (by simpa using hl'),hc⟩
  subst hc1
  split at h
  ·rename_i u e hb
   split at h
   ·rename_i hq
    simp only [Bool.and_eq_true,l5,Nat.blt_eq] at hq
    obtain ⟨rfl,hlt⟩:=hq
    cases h
    obtain ⟨C,fr,g1,g2,g3,g4,g5⟩:=hR.row hb hc
    obtain rfl:=g3 (by decide)
    obtain ⟨cx,cy,rfl,hx,hy⟩:=PL.ZE (u:=undef) (v:=undef) g2 (g5 rfl)
    have hcx:=hx.bW rfl
    subst hcx
    refine (QZ c w (by rw [cell_of_row w c 0 _ 98 _ g1];rfl) (by unfold World.shape?;rw [g1];rfl) (frozen_of_row w c 0 _ 98 g1)).mono ?_
    rintro e w' ⟨rfl,rfl⟩
    refine ⟨_,ρ,rfl,.flat rfl,(St.put hR hb hc (by omega) ?_ ?_ (by show (0:Nat)≠2;decide)).wide (fun _ hf=>hf.elim),hn,Nat.le_refl _⟩
    ·exact ⟨rfl,rfl,rfl,by simp [World.setCell],fun k _ hk=>heap_setCell_other w ⟨c,0,none⟩ k _ hk⟩
    ·have:=heap_setCell_same w c 0 _ 98 (.pointer (some ⟨c,0,none⟩)) g1
     rw [this]
     exact ⟨_,_,rfl,⟨[.pointer (some ⟨c,0,none⟩),cy],[],by simp,.cons (.ptr hc) (.cons hy .nil)⟩,fun _=>rfl,(fun h=>by cases h),fun _=>by simp⟩
   ·cases h
  ·rename_i d u e hb
   split at h
   ·rename_i hq
    cases h
    obtain rfl:=Nat.eq_of_beq_eq_true hq
    obtain ⟨C,fr,g1,g2,g3,g4,g5⟩:=hR.row hb hc
    obtain ⟨cx,cy,rfl,hx,hy⟩:=PL.ZE (u:=undef) (v:=undef) g2 (g5 rfl)
    obtain ⟨q,rfl,hq2⟩:=hx.gT
    rw [hc] at hq2;cases hq2
    refine (Y0 c w (by rw [cell_of_row w c 0 _ e _ g1];rfl)).mono ?_
    rintro e w' ⟨rfl,rfl⟩
    exact ⟨_,ρ,rfl,.flat rfl,St.refl hR,hn,Nat.le_refl _⟩
   ·cases h
  ·cases h
 ·cases h
theorem rI {P:Program} {G:Nat} {I J:Callee} (hI:bV P G I) (hJ:bV P G J):bV P G (or I J):=by
 intro f args a v a' h
 unfold Abs.or at h
 split at h
 ·rename_i r hr
  cases h
  exact hI f args a v a' hr
 ·exact hJ f args a v a' h
theorem wG {P:Program} {ρ:Rn} {a:A} {w:World} (hR:Rel P ρ a w) {b o c:Nat} (hc:ρ.bI b=some c) {v:Value} (h:AZ a b o=some v):∃ cv,VR ρ v cv∧w.cell? ⟨c,o,none⟩=some cv:=by
 unfold AZ at h
 split at h
 ·rename_i cs e m hb
  obtain ⟨C,fr,g1,g2,_⟩:=hR.row hb hc
  obtain ⟨u,hu,hr⟩:=g2.get h
  exact ⟨u,hr,by rw [cell_of_row w c o C e fr g1];simpa using hu⟩
 ·cases h
theorem o7 {P:Program} {ρ:Rn} {a a':A} {w:World} (hR:Rel P ρ a w) {b o c:Nat} (hc:ρ.bI b=some c) {x y:Value} (hv:VR ρ x y) (h:oL a b o [x]=some a'):w.frozen? ⟨c,o,none⟩=false∧St P (fun _=>False) ρ a w ρ a' (w.setCell ⟨c,o,none⟩ y)∧a'.next=a.next:=by
 obtain ⟨w',h1,h2,h3⟩:=qN hR hc (.cons hv .nil) h
 have h0:=h
 unfold oL at h
 split at h
 ·rename_i cs e m hb
  split at h
  ·rename_i cs' hm hone hl
   simp only [List.all_cons,List.all_nil,Bool.and_true,Bool.and_eq_true] at hone
   obtain ⟨C,fr,g1,g2,g3,g4⟩:=hR.row hb hc
   obtain rfl:=g3 (fun e=>by rw [e] at hm;cases hm)
   have hf:=frozen_of_row w c o C e g1
   obtain ⟨h5,h6⟩:=g2.laid (.cons hv .nil) hl
   have hlt:o<C.size:=by simp at h6;omega
   have hcell:w.cell? ⟨c,o,none⟩=some C[o]:=by rw [cell_of_row w c o C e _ g1];simp [hlt]
   refine ⟨hf,?_,h3⟩
   have hw:w'=w.setCell ⟨c,o,none⟩ y:=by
    simp only [storeCells,Sem.run_bind,add_eq,Nat.add_zero] at h1
    rw [run_store P w _ y _ (by rw [hv.one];exact hone.1),hcell] at h1
    simp only [hf,Bool.false_eq_true,if_false,Result.andThen_ok] at h1
    exact (Result.ok.inj h1).2.symm
   rw [← hw]
   exact h2
  ·cases h
 ·cases h
theorem LR.vW {ρ:Rn} {b o:Nat} {rest:List Value} {cargs:Array Value} (h:LR ρ (.pointer (some ⟨b,o,none⟩) :: rest) cargs.toList) (hf:fC rest=true):∃ c,cargs=(.pointer (some ⟨c,o,none⟩) :: rest).toArray∧ρ.bI b=some c:=by
 cases hl':cargs.toList with
 |nil=>rw [hl'] at h;cases h
 |cons x l=>
  rw [hl'] at h
  cases h with
  |cons hv ht=>
   obtain ⟨c,rfl,hc⟩:=hv.gT
   have:=ht.bW hf
   subst this
   exact ⟨c,Array.toList_inj.1 (by simpa using hl'),hc⟩
theorem X7:bV Tryz.prog 12 (SI 217 207 218 219 220):=by
 intro f args a v a' h ρ w cargs hR hn hg hl
 unfold SI at h
 split at h
 ·rename_i b o rest
  split at h
  ·split at h
   ·rename_i x hx
    split at h
    ·split at h
     ·rename_i hf
      cases h
      obtain rfl:=Nat.eq_of_beq_eq_true hf
      obtain ⟨c,rfl,hc⟩:=hl.vW rfl
      obtain ⟨cv,h1,h2⟩:=wG hR hc hx
      obtain rfl:=h1.eT
      refine (Tp.ZJ ⟨c,o,none⟩ x w h2).mono ?_
      rintro e w' ⟨rfl,rfl⟩
      exact ⟨_,ρ,rfl,.flat rfl,St.refl hR,hn,Nat.le_refl _⟩
     ·cases h
    ·rename_i y
     obtain ⟨c,rfl,hc⟩:=hl.vW rfl
     obtain ⟨cv,h1,h2⟩:=wG hR hc hx
     obtain rfl:=h1.eT
     split at h
     ·rename_i hf
      obtain rfl:=Nat.eq_of_beq_eq_true hf
      split at h
      ·rename_i a1 hla
       cases h
       obtain ⟨k1,k2,k3⟩:=o7 hR hc (.flat rfl) hla
       refine (Tp.U0 ⟨c,o,none⟩ x y w h2 k1).mono ?_
       rintro e w' ⟨rfl,rfl⟩
       exact ⟨_,ρ,rfl,.flat rfl,k2.wide (fun _ hf=>hf.elim),k3.symm▸hn,by omega⟩
      ·cases h
     ·rename_i hf _
      obtain rfl:=Nat.eq_of_beq_eq_true hf
      split at h
      ·rename_i a1 hla
       cases h
       obtain ⟨k1,k2,k3⟩:=o7 hR hc (.flat rfl) hla
       refine (Tp.ZF ⟨c,o,none⟩ x y w h2 k1).mono ?_
       rintro e w' ⟨rfl,rfl⟩
       exact ⟨_,ρ,rfl,.flat rfl,k2.wide (fun _ hf=>hf.elim),k3.symm▸hn,by omega⟩
      ·cases h
     ·rename_i hf _ _
      obtain rfl:=Nat.eq_of_beq_eq_true hf
      split at h
      ·rename_i a1 hla
       cases h
       obtain ⟨k1,k2,k3⟩:=o7 hR hc (.flat rfl) hla
       refine (Tp.aAdd ⟨c,o,none⟩ x y w h2 k1).mono ?_
       rintro e w' ⟨rfl,rfl⟩
       exact ⟨_,ρ,rfl,.flat rfl,k2.wide (fun _ hf=>hf.elim),k3.symm▸hn,by omega⟩
      ·cases h
     ·cases h
    ·rename_i y z
     obtain ⟨c,rfl,hc⟩:=hl.vW rfl
     obtain ⟨cv,h1,h2⟩:=wG hR hc hx
     obtain rfl:=h1.eT
     split at h
     ·rename_i hf hxy
      obtain rfl:=Nat.eq_of_beq_eq_true hf
      obtain rfl:=mB hxy
      split at h
      ·rename_i a1 hla
       cases h
       obtain ⟨k1,k2,k3⟩:=o7 hR hc (.flat rfl) hla
       refine (Tp.FL ⟨c,o,none⟩ x z w h2 k1).mono ?_
       rintro e w' ⟨rfl,rfl⟩
       exact ⟨_,ρ,rfl,.flat rfl,k2.wide (fun _ hf=>hf.elim),k3.symm▸hn,by omega⟩
      ·cases h
     ·cases h
    ·cases h
   ·cases h
  ·cases h
 ·cases h
end Go.Proofs.YtjopodnlffaogaaGreatDoor.Abs
end
section
namespace Go.Proofs.YtjopodnlffaogaaGreatDoor.Tp
open Go.RowKit Go.Proofs.YtjopodnlffaogaaGreatDoorW.PrintWords Go.Proofs.YtjopodnlffaogaaGreatDoorW.PrintLast Go.Proofs.YtjopodnlffaogaaGreatDoorW.PrintMore
attribute [local go_sem] aU aQ aY aX aI aJ aT aN
theorem pW {S:Nat→Prop} {w w1:World} (h:Mod S w w1) {g:Nat} (hp:S g) (o:Obj):Mod S w (w1.putObj g o):=
 h.trans (T:=fun k=>k=g) ⟨rfl,rfl,rfl,by simp,fun i _ hn=>World.putObj_heap_other hn⟩ (fun _ _ he=>he▸hp)
def LS {α:Type} (F:Fence) (n:Nat) (P:Program) (g:Nat) (lb:Array Value) (b:Nat) (o0:Obj) (H7:α→Array Value) (xs:List α):Prop:=
 ∀ (l:Nat) (J:List α→World→Prop) (W:World),W.heap[b]?=some o0→(∀ s A B,J s A→Mod (fun k=>k=b) A B→J s B)→
  (∀ pre x W1,J pre W1→pre++ [x]<+:xs→YieldAt F (n - 1) P l (H7 x) W1 fun e W'=>e= .returned (.bool true)∧J (pre++ [x]) W'∧W'.heap[b]?=W1.heap[b]?)→
  J [] W→CallsIn F n P g (#[.func (.yield l) #[] #[]]++lb) W fun e W'=>(∃ v,e= .returned v)∧J xs W'
def WN {α:Type} (b D:Nat) (I:List α→World→Prop) (xs:List α) (W:World):Exit→Act→World→Prop
 | .normal,_,W'=>(∀ k,k=b∨k=D∨k=D+1→W'.heap[k]?=W.heap[k]?)∧I xs W'
 |_,_,_=>False
theorem wH {F:Fence} {n:Nat} {P:Program} {α:Type} {g:Operand} {ps:Array Tmp} {assign body:Code} {Q:Exit→Act→World→Prop} {a:Act} {w:World}
  (hro:F.round=none) (h1:1≤n) {gf:Nat} {lb:Array Value} (hg:a.eval g= .func (.func gf) #[] lb) (hFg:F.fn gf) (eg:∀ args w,(callFunc gf args).run P w= .ok (.enter gf args) w)
  {b:Nat} {o0:Obj} {H7:α→Array Value} {xs:List α} (hseq:LS F (n - 1) P gf lb b o0 H7 xs) (hb:w.heap[b]?=some o0) (hps:∀ x,(H7 x).size=ps.size)
  (I:List α→World→Prop) (hI:∀ s A B,I s A→Mod (fun k=>k=b∨k=w.heap.size∨k=w.heap.size+1) A B→I s B) (h0:I [] w) (a₁:α→Act)
  (hassign:∀ (l:Nat) (x:α) (W:World) (K:Act→World→Prop),K (a₁ x) W→
   assign.wpIn (F.inRound l) (n - 1 - 1) P (Exit.then K (fun _ _ _=>False)) { tmps:=(ps.zip (H7 x)).foldl (fun t (p,v)=>t.setIfInBounds p v) a.tmps,defers:= [] } W)
  (hbody:∀ (l:Nat) (pre:List α) (x:α) (W:World),I pre W→pre++ [x]<+:xs→w.heap.size+1<W.heap.size→body.wpIn (F.inRound l) (n - 1 - 1) P (WN b w.heap.size I (pre++ [x]) W) (a₁ x) W)
  (hdone:∀ (W:World),I xs W→W.heap[w.heap.size]?=some (.deferred (some []))→Q .normal { a with defers:= { target:= .collected w.heap.size,args:=#[] } :: a.defers } W):
  (Code.rangeFunc g ps assign body).wpIn F n P Q a w:=by
 refine wpIn_rangeFunc ?_
 intro fn hfn
 rw [hro]
 have hbs:b<w.heap.size:=aZ hb
 obtain ⟨D,hD⟩:∃ D,D=w.heap.size:=⟨_,rfl⟩
 rw [← hD] at hI hbody hdone hbs
 obtain ⟨rec,hrec⟩:∃ rec:LoopState→Loop,rec=fun st=> { state:=st,pending:=none,fn,tmps:=a.tmps,params:=ps,assign,body,defers:=D } :=⟨_,rfl⟩
 obtain ⟨W1,hW1⟩:∃ W1,(w.alloc (.deferred (some []))).alloc (.loop (rec .ready))=W1:=⟨_,rfl⟩
 have hm1:Mod (fun k=>k=b∨k=D∨k=D+1) w W1:=by rw [← hW1];exact ((Mod.refl _ w).alloc _).alloc _
 have hL1:W1.heap[D+1]?=some (.loop (rec .ready)):=by
  rw [← hW1,hD];have:=World.alloc_heap_new (w.alloc (.deferred (some []))) (.loop (rec .ready));rwa [World.size_alloc] at this
 have hK1:W1.heap[D]?=some (.deferred (some [])):=by
  rw [← hW1,hD];exact (Below.heap_alloc _ _ _ (by simp)).trans (World.alloc_heap_new w _)
 have hB1:W1.heap[b]?=some o0:=by
  rw [← hW1];exact (Below.heap_alloc _ _ _ (by simp;omega)).trans ((Below.heap_alloc _ _ _ (by omega)).trans hb)
 refine ⟨D+1,[{ target:= .collected D,args:=#[] }],W1, { target:= .fn (.func gf) lb,args:=#[.func (.yield (D+1)) #[] #[]] },W1,gf,
  #[.func (.yield (D+1)) #[] #[]]++lb,W1,?_,?_,?_,?_,fun _=>h1,?_⟩
 ·rw [← hW1,hrec,hD];exact run_enterLoop_outer _ _ _ _ _
 ·simp only [resolve,hg]
  simp [go_sem]
 ·intro f' hf';simp [Target.leads] at hf';subst hf';exact hFg
 ·simp [invoke,go_sem,eg]
 refine (hseq (D+1) (fun pre W=>I pre W∧W.heap[D+1]?=some (.loop (rec .ready))∧W.heap[D]?=some (.deferred (some []))) W1 hB1
  (fun s A B hs hm=>⟨hI s A B hs.1 (hm.mono (fun _ _ h=> .inl h)),(hm.block _ (aZ hs.2.1) (by omega)).trans hs.2.1,(hm.block _ (aZ hs.2.2) (by omega)).trans hs.2.2⟩) ?_
  ⟨hI _ _ _ h0 hm1,hL1,hK1⟩).mono ?_
 ·rintro pre x W ⟨hi,hl,hk⟩ hpre
  have hlt:D+1<W.heap.size:=aZ hl
  have hy:=run_yield (P:=P) (args:=H7 x) hl (by rw [hrec];exact hps x)
  rw [hrec] at hy
  refine ⟨fn,_,assign,body,hy,roundIn_of_wpIn hfn (hassign _ x W _ ⟨_,run_beginRound hl (by rw [hrec]),?_⟩)⟩
  have hm2:Mod (fun k=>k=b∨k=D∨k=D+1) W (W.putObj (D+1) (.loop { rec .ready with state:= .busy })):=pW (Mod.refl _ W) (.inr (.inr rfl)) _
  have hl2:(W.putObj (D+1) (.loop { rec .ready with state:= .busy })).heap[D+1]?=some (.loop { rec .ready with state:= .busy }):=World.putObj_heap_same hlt
  have hk2:(W.putObj (D+1) (.loop { rec .ready with state:= .busy })).heap[D]?=some (.deferred (some [])):=(World.putObj_heap_other (by omega)).trans hk
  have hb2:(W.putObj (D+1) (.loop { rec .ready with state:= .busy })).heap[b]?=W.heap[b]?:=World.putObj_heap_other (by omega)
  refine wpIn_mono (hbody _ pre x _ (hI _ _ _ hi hm2) hpre (by simpa using hlt)) ?_
  rintro e a3 W3 hp
  cases e with
  |normal=>
   obtain ⟨hkeep,hi3⟩:=hp
   have hl3:=(hkeep (D+1) (.inr (.inr rfl))).trans hl2
   have hr:=run_endRound (P:=P) none hl3
   have hm3:Mod (fun k=>k=b∨k=D∨k=D+1) W3 (W3.putObj (D+1) (.loop { { rec .ready with state:= .busy } with state:= .ready,pending:=none })):=pW (Mod.refl _ W3) (.inr (.inr rfl)) _
   refine ⟨_,_,hr,rfl,⟨hI _ _ _ hi3 hm3,?_,?_⟩,?_⟩
   ·exact (World.putObj_heap_same (aZ hl3)).trans (by rw [hrec];rfl)
   ·exact (World.putObj_heap_other (by omega)).trans ((hkeep D (.inr (.inl rfl))).trans hk2)
   ·exact (World.putObj_heap_other (by omega)).trans ((hkeep b (.inl rfl)).trans hb2)
  |ret=>exact hp.elim
  |exit id=>exact hp.elim
  |goto t=>exact hp.elim
  |panic ch=>exact hp.elim
  |outgrown=>exact hp.elim
 ·rintro e W2 ⟨⟨v,rfl⟩,hi,hl,hk⟩
  have hr:=run_endLoop (P:=P) hl (by rw [hrec];simp)
  rw [hrec] at hr
  exact ⟨none,_,hr,hdone _ (hI _ _ _ hi (pW (Mod.refl _ W2) (.inr (.inr rfl)) _)) ((World.putObj_heap_other (by omega)).trans hk)⟩
end Go.Proofs.YtjopodnlffaogaaGreatDoor.Tp
end
section
namespace Go.Proofs
open Go.Shelf
def Tryz.GF:Go.Shelf.Ren:=⟨fun|171=>155|243=>198|246=>231|283=>252|284=>253|285=>254|286=>255|129=>273|317=>272|318=>274|319=>275|320=>276|337=>287|338=>288|n=>n,fun|3=>3|9=>9|2=>2|4=>4|171=>351|0=>0|53=>352|37=>57|5=>5|173=>355|212=>367|51=>22|20=>20|213=>368|46=>307|232=>390|233=>391|n=>n,fun|17=>5|18=>10|19=>11|n=>n⟩
theorem Tryz.YN:Go.Proofs.Lays.n171 Tryz.prog Tryz.GF:= {
 mixed:=by kernel_rfl
 f129:=Tryz.func273.trans (congrArg some (by kernel_rfl))
 f171:=Tryz.func155.trans (congrArg some (by kernel_rfl))
 f243:=Tryz.func198.trans (congrArg some (by kernel_rfl))
 f246:=Tryz.func231.trans (congrArg some (by kernel_rfl))
 f283:=Tryz.func252.trans (congrArg some (by kernel_rfl))
 f284:=Tryz.func253.trans (congrArg some (by kernel_rfl))
 f285:=Tryz.func254.trans (congrArg some (by kernel_rfl))
 f286:=Tryz.func255.trans (congrArg some (by kernel_rfl))
 f317:=Tryz.func272.trans (congrArg some (by kernel_rfl))
 f318:=Tryz.func274.trans (congrArg some (by kernel_rfl))
 f319:=Tryz.func275.trans (congrArg some (by kernel_rfl))
 f320:=Tryz.func276.trans (congrArg some (by kernel_rfl))
 f337:=Tryz.func287.trans (congrArg some (by kernel_rfl))
 f338:=Tryz.func288.trans (congrArg some (by kernel_rfl))
 t0:=Tryz.underlying0
 a0:=Tryz.isAgg0
 z0:=Tryz.sizeOf0
 v0:=Tryz.zeroValue0
 t2:=Tryz.underlying2
 a2:=Tryz.isAgg2
 z2:=Tryz.sizeOf2
 v2:=Tryz.zeroValue2
 t3:=Tryz.underlying3
 a3:=Tryz.isAgg3
 z3:=Tryz.sizeOf3
 v3:=Tryz.zeroValue3
 t4:=Tryz.underlying4
 a4:=Tryz.isAgg4
 z4:=Tryz.sizeOf4
 v4:=Tryz.zeroValue4
 t5:=Tryz.underlying5
 a5:=Tryz.isAgg5
 z5:=Tryz.sizeOf5
 v5:=Tryz.zeroValue5
 t9:=Tryz.underlying9
 a9:=Tryz.isAgg9
 z9:=Tryz.sizeOf9
 v9:=Tryz.zeroValue9
 t20:=Tryz.underlying20
 a20:=Tryz.isAgg20
 z20:=Tryz.sizeOf20
 v20:=Tryz.zeroValue20
 t37:=Tryz.underlying57
 a37:=Tryz.isAgg57
 z37:=Tryz.sizeOf57
 v37:=Tryz.zeroValue57
 t46:=Tryz.underlying307
 a46:=Tryz.isAgg307
 z46:=Tryz.sizeOf307
 v46:=Tryz.zeroValue307
 t51:=Tryz.underlying22
 a51:=Tryz.isAgg22
 z51:=Tryz.sizeOf22
 v51:=Tryz.zeroValue22
 t53:=Tryz.underlying352
 a53:=Tryz.isAgg352
 z53:=Tryz.sizeOf352
 v53:=Tryz.zeroValue352
 t171:=Tryz.underlying351
 a171:=Tryz.isAgg351
 z171:=Tryz.sizeOf351
 v171:=Tryz.zeroValue351
 t173:=Tryz.underlying355
 a173:=Tryz.isAgg355
 z173:=Tryz.sizeOf355
 v173:=Tryz.zeroValue355
 t212:=Tryz.underlying367
 a212:=Tryz.isAgg367
 z212:=Tryz.sizeOf367
 v212:=Tryz.zeroValue367
 t213:=Tryz.underlying368
 a213:=Tryz.isAgg368
 z213:=Tryz.sizeOf368
 t232:=Tryz.underlying390
 a232:=Tryz.isAgg390
 z232:=Tryz.sizeOf390
 v232:=Tryz.zeroValue390
 t233:=Tryz.underlying391
 a233:=Tryz.isAgg391
 z233:=Tryz.sizeOf391
 v233:=Tryz.zeroValue391
 g17:=by kernel_rfl
 g18:=by kernel_rfl
 g19:=by kernel_rfl }
open Go.RowKit Go.Sort Go.Lib in
theorem Tryz.strconv_Itoa_small (i:Nat) (hi:i<100) (w:World):
  Calls Tryz.prog 155 #[.int .i64 i] w fun e w'=>e= .returned (.string ⟨(Lib.decDigits i).toArray⟩)∧w'=w:=Any.strconv_Itoa_small Tryz.YN i hi w
def Tryz.tK:Go.Shelf.Ren:=⟨fun|155=>205|154=>241|138=>200|165=>269|143=>201|166=>46|197=>233|169=>49|195=>232|218=>234|240=>92|241=>286|219=>235|260=>256|276=>148|277=>294|217=>146|225=>257|224=>258|267=>259|266=>193|314=>277|n=>n,fun|9=>9|3=>3|4=>4|72=>98|0=>0|76=>105|105=>335|21=>21|5=>5|70=>96|20=>20|37=>57|75=>104|127=>179|164=>244|46=>307|119=>370|139=>373|138=>372|146=>374|51=>22|80=>109|n=>n,fun|1=>3|3=>6|4=>7|n=>n⟩
theorem Tryz.X0:Go.Proofs.Lays.n155 Tryz.prog Tryz.tK:= {
 mixed:=by kernel_rfl
 f138:=Tryz.func200.trans (congrArg some (by kernel_rfl))
 f143:=Tryz.func201.trans (congrArg some (by kernel_rfl))
 f154:=Tryz.func241.trans (congrArg some (by kernel_rfl))
 f155:=Tryz.func205.trans (congrArg some (by kernel_rfl))
 f165:=Tryz.func269.trans (congrArg some (by kernel_rfl))
 f166:=Tryz.func46.trans (congrArg some (by kernel_rfl))
 f169:=Tryz.func49.trans (congrArg some (by kernel_rfl))
 f195:=Tryz.func232.trans (congrArg some (by kernel_rfl))
 f197:=Tryz.func233.trans (congrArg some (by kernel_rfl))
 f217:=Tryz.func146.trans (congrArg some (by kernel_rfl))
 f218:=Tryz.func234.trans (congrArg some (by kernel_rfl))
 f219:=Tryz.func235.trans (congrArg some (by kernel_rfl))
 f224:=Tryz.func258.trans (congrArg some (by kernel_rfl))
 f225:=Tryz.func257.trans (congrArg some (by kernel_rfl))
 f240:=Tryz.func92.trans (congrArg some (by kernel_rfl))
 f241:=Tryz.func286.trans (congrArg some (by kernel_rfl))
 f260:=Tryz.func256.trans (congrArg some (by kernel_rfl))
 f266:=Tryz.func193.trans (congrArg some (by kernel_rfl))
 f267:=Tryz.func259.trans (congrArg some (by kernel_rfl))
 f276:=Tryz.func148.trans (congrArg some (by kernel_rfl))
 f277:=Tryz.func294.trans (congrArg some (by kernel_rfl))
 f314:=Tryz.func277.trans (congrArg some (by kernel_rfl))
 t0:=Tryz.underlying0
 a0:=Tryz.isAgg0
 z0:=Tryz.sizeOf0
 v0:=Tryz.zeroValue0
 t3:=Tryz.underlying3
 a3:=Tryz.isAgg3
 z3:=Tryz.sizeOf3
 v3:=Tryz.zeroValue3
 t4:=Tryz.underlying4
 a4:=Tryz.isAgg4
 z4:=Tryz.sizeOf4
 v4:=Tryz.zeroValue4
 t5:=Tryz.underlying5
 a5:=Tryz.isAgg5
 z5:=Tryz.sizeOf5
 v5:=Tryz.zeroValue5
 t9:=Tryz.underlying9
 a9:=Tryz.isAgg9
 z9:=Tryz.sizeOf9
 v9:=Tryz.zeroValue9
 t20:=Tryz.underlying20
 a20:=Tryz.isAgg20
 z20:=Tryz.sizeOf20
 v20:=Tryz.zeroValue20
 t21:=Tryz.underlying21
 a21:=Tryz.isAgg21
 z21:=Tryz.sizeOf21
 v21:=Tryz.zeroValue21
 t37:=Tryz.underlying57
 a37:=Tryz.isAgg57
 z37:=Tryz.sizeOf57
 v37:=Tryz.zeroValue57
 t46:=Tryz.underlying307
 a46:=Tryz.isAgg307
 z46:=Tryz.sizeOf307
 v46:=Tryz.zeroValue307
 t51:=Tryz.underlying22
 a51:=Tryz.isAgg22
 z51:=Tryz.sizeOf22
 v51:=Tryz.zeroValue22
 t70:=Tryz.underlying96
 a70:=Tryz.isAgg96
 z70:=Tryz.sizeOf96
 v70:=Tryz.zeroValue96
 t72:=Tryz.underlying98
 a72:=Tryz.isAgg98
 z72:=Tryz.sizeOf98
 v72:=Tryz.zeroValue98
 t75:=Tryz.underlying104
 a75:=Tryz.isAgg104
 z75:=Tryz.sizeOf104
 v75:=Tryz.zeroValue104
 t76:=Tryz.underlying105
 a76:=Tryz.isAgg105
 z76:=Tryz.sizeOf105
 v76:=Tryz.zeroValue105
 t105:=Tryz.underlying335
 a105:=Tryz.isAgg335
 z105:=Tryz.sizeOf335
 v105:=Tryz.zeroValue335
 t119:=Tryz.underlying370
 a119:=Tryz.isAgg370
 z119:=Tryz.sizeOf370
 t127:=Tryz.underlying179
 a127:=Tryz.isAgg179
 z127:=Tryz.sizeOf179
 v127:=Tryz.zeroValue179
 t138:=Tryz.underlying372
 a138:=Tryz.isAgg372
 z138:=Tryz.sizeOf372
 v138:=Tryz.zeroValue372
 t139:=Tryz.underlying373
 a139:=Tryz.isAgg373
 z139:=Tryz.sizeOf373
 v139:=Tryz.zeroValue373
 t146:=Tryz.underlying374
 a146:=Tryz.isAgg374
 z146:=Tryz.sizeOf374
 v146:=Tryz.zeroValue374
 t164:=Tryz.underlying244
 a164:=Tryz.isAgg244
 z164:=Tryz.sizeOf244
 v164:=Tryz.zeroValue244
 g1:=by kernel_rfl
 g3:=by kernel_rfl
 g4:=by kernel_rfl }
theorem Tryz.rG:Builder.Extra Tryz.prog Tryz.tK:= {
 sizeBuilder:=by kernel_rfl
 liesBuilder:=by kernel_rfl
 t5:=Tryz.underlying5
 a5:=Tryz.isAgg5
 z5:=Tryz.sizeOf5
 v5:=Tryz.zeroValue5
 infoByte:=by kernel_rfl
 cellsByte:=by kernel_rfl
 sizeByte:=by kernel_rfl
 neB5:=by decide }
open Go.RowKit Go.Lib in
theorem Tryz.strings_ReplaceAll (s old new:ByteArray) (m:Int) (w:World) (hs:s.size<4294967281) (hm:w.cell? ⟨3,0,none⟩=some (.int .i64 m)) (h1:1≤old.size) (hlen:s.size+Lib.countB s old*new.size≤140737488355328):
  Calls Tryz.prog 205 #[.string s,.string old,.string new] w fun e w'=>
   e= .returned (.string ⟨(Lib.replaceAll s.data.toList old.data.toList new.data.toList).toArray⟩)∧Below w.heap.size w w':=Any.strings_ReplaceAll Tryz.X0 Tryz.rG s old new m w hs hm h1 hlen
def Tryz.FX:Go.Shelf.Ren:=⟨fun|137=>90|217=>146|266=>193|n=>n,fun|9=>9|5=>5|3=>3|n=>n,fun|n=>n⟩
theorem Tryz.XH:Go.Proofs.Lays.n137 Tryz.prog Tryz.FX:= {
 mixed:=by kernel_rfl
 f137:=Tryz.func90.trans (congrArg some (by kernel_rfl))
 f217:=Tryz.func146.trans (congrArg some (by kernel_rfl))
 f266:=Tryz.func193.trans (congrArg some (by kernel_rfl))
 t3:=Tryz.underlying3
 a3:=Tryz.isAgg3
 z3:=Tryz.sizeOf3
 v3:=Tryz.zeroValue3
 t5:=Tryz.underlying5
 a5:=Tryz.isAgg5
 z5:=Tryz.sizeOf5
 v5:=Tryz.zeroValue5
 t9:=Tryz.underlying9
 a9:=Tryz.isAgg9
 z9:=Tryz.sizeOf9
 v9:=Tryz.zeroValue9 }
open Go.RowKit in
theorem Tryz.strings_IndexByte (s:ByteArray) (c:Int) (w:World):
  Calls Tryz.prog 90 #[.string s,.int .u8 c] w fun e w'=>e= .returned (.int .i64 (Lib.indexByte s.data.toList c.toNat.toUInt8))∧w'=w:=Any.strings_IndexByte Tryz.XH s c w
end Go.Proofs
end
section
namespace Go.Proofs.YtjopodnlffaogaaGreatDoor.Tp
open Go.RowKit Go.Proofs.YtjopodnlffaogaaGreatDoorW.PrintWords Go.Proofs.YtjopodnlffaogaaGreatDoorW.PrintLast Go.Proofs.YtjopodnlffaogaaGreatDoorW.PrintMore
attribute [local go_sem] aU aQ aY aX aI aJ aT aN
attribute [local go_sem] Oper.semAt_some
def gB (xs:List (List UInt8)):List UInt8:=xs.flatMap (·++ [10])
def eE (l:List UInt8):ByteArray:=⟨l.toArray⟩
def fA (l:List UInt8):Value:= .string (eE (l++ [10]))
theorem pJ (x:List UInt8) (xs:List (List UInt8)):gB (x :: xs)=x++ [10]++gB xs:=rfl
theorem zT:∀ (x r:List UInt8),10∉x→Lib.indexByte (x++ [10]++r) 10=x.length
 | [],r,_=>by simp [Lib.indexByte]
 |c :: x,r,h=>by
  have h1:(c==10)=false:=by
   rw [beq_eq_false_iff_ne]
   rintro rfl
   exact h (by simp)
  have ih:=zT x r (fun hm=>h (by simp [hm]))
  simp only [List.cons_append]
  rw [Lib.indexByte,h1,ih]
  have h2:((x.length:Int)== -1)=false:=by rw [beq_eq_false_iff_ne];omega
  simp [h2]
theorem NY (n:Nat) (hn:3≤n) (b:Nat) (xs:List (List UInt8)) (hx:∀ x∈xs,10∉x) (hs:(gB xs).length<1000000):
  LS Fence.wide n Tryz.prog 89 #[.pointer (some ⟨b,0,none⟩)] b (.cells #[.string (eE (gB xs))] 9 (0,0)) (fun l=>#[fA l]) xs:=by
 intro l J W hb hJ hY h0
 refine callsIn_of_wp Tryz.func89 rfl trivial ?_ rfl
 simp only [Tryz.ntmps89,List.size_toArray,List.length_cons,List.length_nil,Nat.reduceAdd,Nat.reduceSub,Array.replicate_succ,Array.replicate_zero,List.push_toArray,List.append_toArray,List.nil_append,List.cons_append]
 have HX:=aA.mk hx
 have HS:=aA.mk hs
 have HY:=aA.mk hY
 have HJ:=aA.mk hJ
 clear hx hs hY hJ
 gi_wp2
 gi_loopw [] (fun wr=>∃ (pre rest:List (List UInt8)),xs=pre++rest∧aA (wr.heap[b]?=some (.cells #[.string (eE (gB rest))] 9 (0,0)))∧aA (J pre wr)) (fun wr=>(match wr.cell? ⟨b,0,none⟩ with|some (.string s)=>s.size|_=>0))
 case atStart=>exact ⟨[],xs,rfl,⟨hb⟩,⟨h0⟩⟩
 case round=>
  obtain ⟨pre,rest,hxe,B0,J0⟩:=hrel
  have c0:=(aC B0.out 0).trans rfl
  have fz:=aG B0.out 0
  cases rest with
  |nil=>
   have z:(eE (gB [])).size=0:=rfl
   gi_wp2
   go_end0
   exact ⟨⟨_,rfl⟩,by rw [hxe,List.append_nil];exact J0.out⟩
  |cons x rest=>
   have hm:10∉x:=HX.out x (by rw [hxe];simp)
   have hsz:(eE (gB (x :: rest))).size=x.length+1+(gB rest).length:=by rw [pJ];simp [eE,ByteArray.size];omega
   have hlen:x.length+1+(gB rest).length<1000000:=by
    have h2:=HS.out
    rw [hxe] at h2
    simp [gB] at h2 ⊢
    omega
   have hidx:Lib.indexByte (eE (gB (x :: rest))).data.toList (10:Int).toNat.toUInt8=(x.length:Int):=by
    rw [pJ]
    exact zT x (gB rest) hm
   have e0:decide ((0:Int)<(x.length:Int)+1+((gB rest).length:Int))=true:=decide_eq_true (by omega)
   have e1:decide ((0:Int)≤(x.length:Int))=true:=decide_eq_true (by omega)
   gi_wp2_with (refine ⟨trivial,(fun _=>by omega),?_⟩;gi_at_call 90;refine (callsIn_wide.2 (Tryz.strings_IndexByte _ _ _)).mono ?_;rintro e w1 ⟨rfl,rfl⟩;rw [hidx])
   gi_region
   have x1:(eE (gB (x :: rest))).extract 0 (x.length+1)=eE (x++ [10]):=by
    rw [pJ];apply ByteArray.ext;simp [eE,ByteArray.data_extract]
    rw [show x++10 :: gB rest=(x++ [10])++gB rest by simp]
    exact List.take_left' (by simp)
   have x2:(eE (gB (x :: rest))).extract (x.length+1) (x.length+1+(gB rest).length)=eE (gB rest):=by
    rw [pJ];apply ByteArray.ext;simp [eE,ByteArray.data_extract]
   rw [x1,x2]
   clear x1 x2
   have m2:Mod (fun k=>k=b) w1 (w1.setCell ⟨b,0,none⟩ (.string (eE (gB rest)))).drew:=(Mod.setCell (S:=fun k=>k=b) (Mod.refl _ w1) (p:=⟨b,0,none⟩) rfl _).drew
   have B2:=aA.mk (show (w1.setCell ⟨b,0,none⟩ (.string (eE (gB rest)))).drew.heap[b]?=some (.cells #[.string (eE (gB rest))] 9 (0,0)) from (bE B0.out 0 _).trans rfl)
   have J2:=aA.mk (HJ.out _ _ _ J0.out m2)
   have hsz2:(eE (gB rest)).size=(gB rest).length:=by simp [eE,ByteArray.size]
   clear m2 B0 J0 fz e0 e1 hidx
   have hms:(match w1.cell? ⟨b,0,none⟩ with|some (.string s)=>s.size|_=>0)=x.length+1+(gB rest).length:=by rw [c0,← hsz];rfl
   generalize (w1.setCell ⟨b,0,none⟩ (.string (eE (gB rest)))).drew=w2 at B2 J2 ⊢
   obtain ⟨fn,tmps,assign,body,hy,hR⟩:=HY.out pre x w2 J2.out (by rw [hxe];exact ⟨rest,by simp⟩)
   have HR:=aA.mk hR
   unfold fA at hy
   clear hR
   gi_wp2_with (refine ⟨(fun _=>by omega),HR.out.mono ?_⟩;rintro e w3 ⟨rfl,hJ3,hk3⟩)
   have B3:=aA.mk (hk3.trans B2.out)
   have c3:w3.cell? ⟨b,0,none⟩=some (.string (eE (gB rest))):=(aC B3.out 0).trans rfl
   go_roundw
   case rel=>exact ⟨pre++ [x],rest,by rw [hxe];simp,B3,⟨hJ3⟩⟩
   case measure=>
    rw [hms,c3]
    show (eE (gB rest)).size<_
    omega
end Go.Proofs.YtjopodnlffaogaaGreatDoor.Tp
end
section
namespace Go.Proofs.YtjopodnlffaogaaGreatDoor.Tp
open Go.RowKit Go.Proofs.YtjopodnlffaogaaGreatDoorW.PrintWords Go.Proofs.YtjopodnlffaogaaGreatDoorW.PrintLast Go.Proofs.YtjopodnlffaogaaGreatDoorW.PrintMore
attribute [local go_sem] aU aQ aY aX aI aJ aT aN
structure dA where
 op:Int
 d:Int
 s:Int
 t:Int
 u:Int
 a:Int
 k:Int
 to_:Int
def e9:Kd dA:=Kd.iso ((Kd.pair (Kd.int .i64) (Kd.pair (Kd.int .i64) (Kd.pair (Kd.int .i64) (Kd.pair (Kd.int .i64) (Kd.pair (Kd.int .i64) (Kd.pair (Kd.int .i64) (Kd.pair (Kd.int .u32) (Kd.int .i64))))))))) (fun x:dA=>(x.op,x.d,x.s,x.t,x.u,x.a,x.k,x.to_))
abbrev dA.cells (x:dA):List Value:= [.int .i64 x.op,.int .i64 x.d,.int .i64 x.s,.int .i64 x.t,.int .i64 x.u,.int .i64 x.a,.int .u32 x.k,.int .i64 x.to_]
theorem E7 (w:World) (base:Nat) (ok:Nat→Prop) (x:dA):e9.M w base ok x x.cells:=⟨[.int .i64 x.op],[.int .i64 x.d,.int .i64 x.s,.int .i64 x.t,.int .i64 x.u,.int .i64 x.a,.int .u32 x.k,.int .i64 x.to_],rfl,rfl,⟨[.int .i64 x.d],[.int .i64 x.s,.int .i64 x.t,.int .i64 x.u,.int .i64 x.a,.int .u32 x.k,.int .i64 x.to_],rfl,rfl,⟨[.int .i64 x.s],[.int .i64 x.t,.int .i64 x.u,.int .i64 x.a,.int .u32 x.k,.int .i64 x.to_],rfl,rfl,⟨[.int .i64 x.t],[.int .i64 x.u,.int .i64 x.a,.int .u32 x.k,.int .i64 x.to_],rfl,rfl,⟨[.int .i64 x.u],[.int .i64 x.a,.int .u32 x.k,.int .i64 x.to_],rfl,rfl,⟨[.int .i64 x.a],[.int .u32 x.k,.int .i64 x.to_],rfl,rfl,⟨[.int .u32 x.k],[.int .i64 x.to_],rfl,rfl,rfl⟩⟩⟩⟩⟩⟩⟩
theorem sN {w:World} {x:dA} {cs:List Value} (h:e9.K w x cs):cs=x.cells:=by
 obtain ⟨_,_,rfl,rfl,⟨_,_,rfl,rfl,⟨_,_,rfl,rfl,⟨_,_,rfl,rfl,⟨_,_,rfl,rfl,⟨_,_,rfl,rfl,⟨_,_,rfl,rfl,rfl⟩⟩⟩⟩⟩⟩⟩:=h
 rfl
structure En where
 kind:Int
 thread:Int
 now:Int
instance:Inhabited dA:=⟨⟨0,0,0,0,0,0,0,0⟩⟩
instance:Inhabited En:=⟨⟨0,0,0⟩⟩
theorem BL {α:Type} (d:Kd α) (e:Nat) (w:World) (base:Nat) (hb:base≤w.heap.size:=by omega):d.R e (w.alloc (.cells #[] e)) base (fun _=>True) (.slice (some ⟨w.heap.size,0,none⟩) 0 0) []:=by
 refine ⟨fun _ _=>trivial,[],?_,?_⟩
 ·have h:=World.ownsRow_made (base:=base) (size:=d.sz) (e:=e) w #[] 0 hb (by decide) (by simp)
  simpa using h
 ·exact lZ.none _ _
theorem L7:(Tryz.prog.info? 3).map (fun i=>(i.zero,i.size,i.bytes))=some (some (.int .i64 0),(Kd.int .i64).sz,8):=by kernel_rfl
theorem tU (A:Option Addr) (c:Nat) (xs:List Int) (w:World) (hC:Kd.C (Kd.int .i64) w A xs.length xs) (hc:xs.length≤c) (hn:A=none→xs= []) (hl:xs.length≤1000000):Calls Tryz.prog 171 #[.slice A xs.length c] w fun e w'=>
  ∃ v,e= .returned v∧Kd.R (Kd.int .i64) 3 w' w.heap.size (fun _=>True) v xs∧Below w.heap.size w w':=by
 cases A with
 |none=>
  obtain rfl:=hn rfl
  clear hC hc hn hl
  have hq:=fun (W:World)=>Lib.run_eql_slice_nil (P:=Tryz.prog) W 32 3 none 0 c 0 0 Tryz.underlying32
  go_enter Tryz.func171,Tryz.ntmps171
  go_wp2
  go_ret
  exact ⟨_,rfl,Kd.lA _ _ _ _ _,Below.refl _ _⟩
 |some ad=>
  have HC:=aA.mk hC
  have HL:=aA.mk hl
  clear hC hc hn hl
  have hq:=fun (W:World)=>Lib.run_eql_slice_nil (P:=Tryz.prog) W 32 3 (some ad) xs.length c 0 0 Tryz.underlying32
  go_enter Tryz.func171,Tryz.ntmps171
  go_wp2_with ((with_reducible refine dT (b:= .append) (xs:=#[.tmp 5,.tmp 6]) rfl ?_);at_builtin;refine Kd.lV (Kd.int .i64) (Rr:=(Kd.int .i64).K w) (w0:=w) w.heap.size rfl (.tmp 5) (.tmp 6) 32 3 (.int .i64 0) 8 rfl Tryz.underlying32 L7 rfl (by decide) (by omega) _ [] xs (some ad) xs.length c (fun _=>True) (fun _=>False) rfl rfl ?aR (Kd.dV HC.out _) ?aM (fun _ hk=>hk.elim) (fun _ _=>trivial) (aD (Below.refl _ _) _) (by simp) (by have:=HL.out;simp;omega) ?_;(case aR=>exact BL _ _ _ _);(case aM=>intro x cs h;exact h);intro v1 w8 ho hb hg hat)
  go_ret
  exact ⟨_,rfl,ho,hb⟩
theorem B6:(Tryz.prog.info? 214).map (fun i=>(i.zero,i.size,i.bytes))=some (some (.agg #[.int .i64 0,.int .i64 0,.int .i64 0,.int .i64 0,.int .i64 0,.int .i64 0,.int .u32 0,.int .i64 0]),e9.sz,64):=by kernel_rfl
theorem vD (A:Option Addr) (c:Nat) (xs:List dA) (w:World) (hC:Kd.C e9 w A xs.length xs) (hc:xs.length≤c) (hn:A=none→xs= []) (hl:xs.length≤1000000):Calls Tryz.prog 177 #[.slice A xs.length c] w fun e w'=>
  ∃ v,e= .returned v∧Kd.R e9 214 w' w.heap.size (fun _=>True) v xs∧Below w.heap.size w w':=by
 cases A with
 |none=>
  obtain rfl:=hn rfl
  clear hC hc hn hl
  have hq:=fun (W:World)=>Lib.run_eql_slice_nil (P:=Tryz.prog) W 110 214 none 0 c 0 0 Tryz.underlying110
  go_enter Tryz.func177,Tryz.ntmps177
  go_wp2
  go_ret
  exact ⟨_,rfl,Kd.lA _ _ _ _ _,Below.refl _ _⟩
 |some ad=>
  have HC:=aA.mk hC
  have HL:=aA.mk hl
  clear hC hc hn hl
  have hq:=fun (W:World)=>Lib.run_eql_slice_nil (P:=Tryz.prog) W 110 214 (some ad) xs.length c 0 0 Tryz.underlying110
  go_enter Tryz.func177,Tryz.ntmps177
  go_wp2_with ((with_reducible refine dT (b:= .append) (xs:=#[.tmp 5,.tmp 6]) rfl ?_);at_builtin;refine Kd.lV e9 (Rr:=e9.K w) (w0:=w) w.heap.size rfl (.tmp 5) (.tmp 6) 110 214 (.agg #[.int .i64 0,.int .i64 0,.int .i64 0,.int .i64 0,.int .i64 0,.int .i64 0,.int .u32 0,.int .i64 0]) 64 rfl Tryz.underlying110 B6 rfl (by decide) (by omega) _ [] xs (some ad) xs.length c (fun _=>True) (fun _=>False) rfl rfl ?aR (Kd.dV HC.out _) ?aM (fun _ hk=>hk.elim) (fun _ _=>trivial) (aD (Below.refl _ _) _) (by simp) (by have:=HL.out;simp;omega) ?_;(case aR=>exact BL _ _ _ _);(case aM=>intro x cs h;rw [sN h];exact E7 _ _ _ _);intro v1 w8 ho hb hg hat)
  go_ret
  exact ⟨_,rfl,ho,hb⟩
end Go.Proofs.YtjopodnlffaogaaGreatDoor.Tp
end
