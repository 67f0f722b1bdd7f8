/- A part of the proof of TopSame: TmPk, TmList, TmPm, TmRing, TmCell. -/
import Derived.Test.YtjopodnlffaogaaGreatDoorSL0a
import Derived.Conc.LoneSelect
import Derived.Conc.LoneSelectN
set_option linter.unusedVariables false
set_option linter.unusedSimpArgs false
set_option maxRecDepth 100000
set_option maxHeartbeats 4000000
section
namespace Go.Proofs.YtjopodnlffaogaaGreatDoor.Tp
open Go.RowKit Go.Proofs.YtjopodnlffaogaaGreatDoorW.PrintWords Go.Proofs.YtjopodnlffaogaaGreatDoorW.PrintLast Go.Proofs.YtjopodnlffaogaaGreatDoorW.PrintMore
attribute [local go_sem] aU aQ aY aX aI aJ aT aN
def Sl.cells (x:Sl):List Value:= [.int .i64 x.looks,.int .i64 x.addr]
theorem Sl.eS (x:Sl):x.cells.length=2:=rfl
def AV (l:List Sl) (rest:List Value):Array Value:=(l.flatMap Sl.cells++rest).toArray
theorem cE (l:List Sl) (rest:List Value) (i j:Nat) (hi:i<l.length) (hj:j<2):(AV l rest)[i*2+j]?=(l[i]).cells[j]?:=by
 unfold AV
 have h:=qP Sl.cells 2 Sl.eS l i j hj
 have hl:i*2+j<(l.flatMap Sl.cells).length:=by rw [oA Sl.cells 2 Sl.eS];omega
 rw [List.getElem?_toArray,List.getElem?_append_left hl,h,List.getElem?_eq_getElem hi]
 rfl
theorem NL (l:List Sl) (rest:List Value) (i j:Nat) (v:Value) (y:Sl) (hi:i<l.length) (hj:j<2) (h:y.cells=(l[i].cells).set j v):(AV l rest).setIfInBounds (i*2+j) v=AV (l.set i y) rest:=by
 unfold AV
 have hl:i*2+j<(l.flatMap Sl.cells).length:=by rw [oA Sl.cells 2 Sl.eS];omega
 rw [List.setIfInBounds_toArray,List.set_append_left _ _ hl,qZ Sl.cells 2 Sl.eS l i j v y hj hi h]
def KY (b:Bool) (v:Value) (s r:Nat):Obj:= .chan 1 (if b then #[v] else #[]) false s r false
structure dQ (W:World) (bw gs cap bp gp capp:Nat) (spin:Int) (sl:List Sl) (rest restp:List Value) (cs:List Nat) (pm:List Bool):Prop where
 bI:W.heap[bw]?=some (.cells #[.int .i64 spin,.slice (some ⟨gs,0,none⟩) sl.length cap,.pointer (some ⟨bp,0,none⟩)] 123 (0,0))
 row:W.heap[gs]?=some (.cells (AV sl rest) 125 (0,0))
 pblk:W.heap[bp]?=some (.cells #[.slice (some ⟨gp,0,none⟩) cs.length capp] 195 (0,0))
 prow:W.heap[gp]?=some (.cells (cs.map (fun c=>Value.chan (some c))++restp).toArray 196 (0,0))
 nodup:cs.Nodup
 chans:∀ i (h:i<cs.length),∃ v s r,W.heap[cs[i]]?=some (KY (pm.getD i false) v s r)
 len:cs.length=sl.length
 plen:pm.length=sl.length
 few:sl.length≤64
section
variable {W W':World} {bw gs cap bp gp capp:Nat} {spin:Int} {sl:List Sl} {rest restp:List Value} {cs:List Nat} {pm:List Bool}
theorem dQ.below (h:dQ W bw gs cap bp gp capp spin sl rest restp cs pm) (hb:Below W.heap.size W W'):dQ W' bw gs cap bp gp capp spin sl rest restp cs pm:=
 ⟨aE h.bI hb,aE h.row hb,aE h.pblk hb,aE h.prow hb,h.nodup,fun i hi=>by obtain ⟨v,s,r,hc⟩:=h.chans i hi;exact ⟨v,s,r,aE hc hb⟩,h.len,h.plen,h.few⟩
theorem dQ.set (h:dQ W bw gs cap bp gp capp spin sl rest restp cs pm) (t j:Nat) (v:Value) (y:Sl) (ht:t<sl.length) (hj:j<2) (hy:y.cells=(sl[t].cells).set j v):dQ (W.setCell ⟨gs,t*2+j,none⟩ v) bw gs cap bp gp capp spin (sl.set t y) rest restp cs pm:=by
 have hl:(sl.set t y).length=sl.length:=by simp
 have hc:∀ i (hi:i<cs.length),cs[i]≠gs:=fun i hi e=>by
  obtain ⟨v,s,r,hc⟩:=h.chans i hi
  rw [e,h.row] at hc
  cases hc
 refine ⟨by rw [hl];exact bB (p:=⟨gs,t*2+j,none⟩) h.bI (aK h.bI h.row (by decide)) _,(bE h.row (t*2+j) v).trans (by rw [NL sl rest t j v y ht hj hy]),bB (p:=⟨gs,t*2+j,none⟩) h.pblk (aK h.pblk h.row (by decide)) _,bB (p:=⟨gs,t*2+j,none⟩) h.prow (aK h.prow h.row (by decide)) _,h.nodup,fun i hi=>?_,h.len.trans hl.symm,h.plen.trans hl.symm,by rw [hl];exact h.few⟩
 obtain ⟨v',s,r,hc'⟩:=h.chans i hi
 exact ⟨v',s,r,by rw [Below.heap_setCell W ⟨gs,t*2+j,none⟩ v cs[i] (hc i hi)];exact hc'⟩
end
theorem tC (bw gs cap bp gp capp:Nat) (spin:Int) (sl:List Sl) (rest restp:List Value) (cs:List Nat) (pm:List Bool) (t:Nat) (w:World) (h:dQ w bw gs cap bp gp capp spin sl rest restp cs pm) (ht:t<sl.length):
  Calls Tryz.prog 68 #[.pointer (some ⟨bw,0,none⟩),.int .i64 (t:Int)] w fun e w'=>e= .returned (.tuple #[])∧Mod (fun q=>q=gs) w w'∧dQ w' bw gs cap bp gp capp spin (sl.set t ⟨0,sl[t].addr⟩) rest restp cs pm:=by
 have H:=aA.mk h
 have b0:=(aC h.bI 0).trans rfl
 have b1:=(aC h.bI 1).trans rfl
 have b2:=(aC h.bI 2).trans rfl
 have s0:w.cell? ⟨gs,t*2,none⟩=some (.int .i64 sl[t].looks):=(aC h.row (t*2+0)).trans (cE sl rest t 0 ht (by decide))
 have s1:w.cell? ⟨gs,t*2+1,none⟩=some (.int .i64 sl[t].addr):=(aC h.row (t*2+1)).trans (cE sl rest t 1 ht (by decide))
 have f0:=aG h.row (t*2)
 have f1:=aG h.row (t*2+1)
 have i0:(0:Int)≤(t:Int):=by omega
 have i1:(t:Int)<(sl.length:Int):=by omega
 have i2:(sl.length:Int)≤64:=by have:=h.few;omega
 have n1:bw≠gs:=aK h.bI h.row (by decide)
 clear h
 go_enter Tryz.func68,Tryz.ntmps68
 go_wp2
 go_end0
 exact ⟨rfl,(Mod.refl (fun q=>q=gs) w).setCell (p:=⟨gs,t*2,none⟩) rfl _,H.out.set t 0 _ ⟨0,sl[t].addr⟩ ht (by decide) rfl⟩
theorem DG (bw gs cap bp gp capp:Nat) (spin:Int) (sl:List Sl) (rest restp:List Value) (cs:List Nat) (pm:List Bool) (t:Nat) (w:World) (h:dQ w bw gs cap bp gp capp spin sl rest restp cs pm) (ht:t<sl.length) (ha:sl[t].addr= -1):
  Calls Tryz.prog 64 #[.pointer (some ⟨bw,0,none⟩),.int .i64 (t:Int)] w fun e w'=>e= .returned (.bool true)∧w=w':=by
 have H:=aA.mk h
 have b0:=(aC h.bI 0).trans rfl
 have b1:=(aC h.bI 1).trans rfl
 have b2:=(aC h.bI 2).trans rfl
 have s0:w.cell? ⟨gs,t*2,none⟩=some (.int .i64 sl[t].looks):=(aC h.row (t*2+0)).trans (cE sl rest t 0 ht (by decide))
 have s1:w.cell? ⟨gs,t*2+1,none⟩=some (.int .i64 sl[t].addr):=(aC h.row (t*2+1)).trans (cE sl rest t 1 ht (by decide))
 have f0:=aG h.row (t*2)
 have f1:=aG h.row (t*2+1)
 have i0:(0:Int)≤(t:Int):=by omega
 have i1:(t:Int)<(sl.length:Int):=by omega
 have i2:(sl.length:Int)≤64:=by have:=h.few;omega
 have n1:bw≠gs:=aK h.bI h.row (by decide)
 clear h
 rw [ha] at s1
 clear ha
 go_enter Tryz.func64,Tryz.ntmps64
 go_wp2
 go_ret
 exact ⟨rfl,rfl⟩
theorem KE (bw gs cap bp gp capp:Nat) (spin:Int) (sl:List Sl) (rest restp:List Value) (cs:List Nat) (pm:List Bool) (t:Nat) (w:World) (h:dQ w bw gs cap bp gp capp spin sl rest restp cs pm) (ht:t<sl.length) (ha:sl[t].addr= -1):
  Calls Tryz.prog 72 #[.pointer (some ⟨bw,0,none⟩),.int .i64 (t:Int)] w fun e w'=>e= .returned (.bool false)∧w=w':=by
 have H:=aA.mk h
 have b0:=(aC h.bI 0).trans rfl
 have b1:=(aC h.bI 1).trans rfl
 have b2:=(aC h.bI 2).trans rfl
 have s0:w.cell? ⟨gs,t*2,none⟩=some (.int .i64 sl[t].looks):=(aC h.row (t*2+0)).trans (cE sl rest t 0 ht (by decide))
 have s1:w.cell? ⟨gs,t*2+1,none⟩=some (.int .i64 sl[t].addr):=(aC h.row (t*2+1)).trans (cE sl rest t 1 ht (by decide))
 have f0:=aG h.row (t*2)
 have f1:=aG h.row (t*2+1)
 have i0:(0:Int)≤(t:Int):=by omega
 have i1:(t:Int)<(sl.length:Int):=by omega
 have i2:(sl.length:Int)≤64:=by have:=h.few;omega
 have n1:bw≠gs:=aK h.bI h.row (by decide)
 clear h
 rw [ha] at s1
 clear ha
 go_enter Tryz.func72,Tryz.ntmps72
 go_wp2
 go_ret
 exact ⟨rfl,rfl⟩
theorem D2 (bw gs cap bp gp capp:Nat) (spin:Int) (sl:List Sl) (rest restp:List Value) (cs:List Nat) (pm:List Bool) (t:Nat) (w:World) (h:dQ w bw gs cap bp gp capp spin sl rest restp cs pm) (ht:t<sl.length) (ha:sl[t].addr= -1):
  Calls Tryz.prog 71 #[.pointer (some ⟨bw,0,none⟩),.int .i64 (t:Int)] w fun e w'=>e= .returned (.tuple #[.int .i64 0,.bool false])∧w=w':=by
 have H:=aA.mk h
 have b0:=(aC h.bI 0).trans rfl
 have b1:=(aC h.bI 1).trans rfl
 have b2:=(aC h.bI 2).trans rfl
 have s0:w.cell? ⟨gs,t*2,none⟩=some (.int .i64 sl[t].looks):=(aC h.row (t*2+0)).trans (cE sl rest t 0 ht (by decide))
 have s1:w.cell? ⟨gs,t*2+1,none⟩=some (.int .i64 sl[t].addr):=(aC h.row (t*2+1)).trans (cE sl rest t 1 ht (by decide))
 have f0:=aG h.row (t*2)
 have f1:=aG h.row (t*2+1)
 have i0:(0:Int)≤(t:Int):=by omega
 have i1:(t:Int)<(sl.length:Int):=by omega
 have i2:(sl.length:Int)≤64:=by have:=h.few;omega
 have n1:bw≠gs:=aK h.bI h.row (by decide)
 clear h
 rw [ha] at s1
 clear ha
 go_enter Tryz.func71,Tryz.ntmps71
 go_wp2
 go_ret2
 exact ⟨rfl,rfl⟩
theorem XV (bw gs cap bp gp capp:Nat) (spin:Int) (sl:List Sl) (rest restp:List Value) (cs:List Nat) (pm:List Bool) (t:Nat) (addr:Int) (w:World) (h:dQ w bw gs cap bp gp capp spin sl rest restp cs pm) (ht:t<sl.length) (hl:0≤sl[t].looks∧sl[t].looks≤1000) (hk:sl[t].looks+1<spin):
  Calls Tryz.prog 67 #[.pointer (some ⟨bw,0,none⟩),.int .i64 (t:Int),.int .i64 addr] w fun e w'=>e= .returned (.bool false)∧Mod (fun q=>q=gs) w w'∧dQ w' bw gs cap bp gp capp spin (sl.set t ⟨sl[t].looks+1,sl[t].addr⟩) rest restp cs pm:=by
 have H:=aA.mk h
 have b0:=(aC h.bI 0).trans rfl
 have b1:=(aC h.bI 1).trans rfl
 have b2:=(aC h.bI 2).trans rfl
 have s0:w.cell? ⟨gs,t*2,none⟩=some (.int .i64 sl[t].looks):=(aC h.row (t*2+0)).trans (cE sl rest t 0 ht (by decide))
 have s1:w.cell? ⟨gs,t*2+1,none⟩=some (.int .i64 sl[t].addr):=(aC h.row (t*2+1)).trans (cE sl rest t 1 ht (by decide))
 have f0:=aG h.row (t*2)
 have f1:=aG h.row (t*2+1)
 have i0:(0:Int)≤(t:Int):=by omega
 have i1:(t:Int)<(sl.length:Int):=by omega
 have i2:(sl.length:Int)≤64:=by have:=h.few;omega
 have n1:bw≠gs:=aK h.bI h.row (by decide)
 clear h
 have hs:IntKind.i64.wrap (sl[t].looks+1)=sl[t].looks+1:=IntWalk.i64_in _ (by omega)
 have e1:decide (sl[t].looks+1<spin)=true:=decide_eq_true hk
 clear hl hk
 go_enter Tryz.func67,Tryz.ntmps67
 go_wp2_with fail
 go_quiet (fail)
 go_wp2
 go_ret
 exact ⟨rfl,((Mod.refl (fun q=>q=gs) w).setCell (p:=⟨gs,t*2,none⟩) rfl _).drewN _,(H.out.set t 0 _ ⟨sl[t].looks+1,sl[t].addr⟩ ht (by decide) rfl).below (aH (Below.refl _ _) _)⟩
theorem PW (bw gs cap bp gp capp:Nat) (spin:Int) (sl:List Sl) (rest restp:List Value) (cs:List Nat) (pm:List Bool) (t:Nat) (addr:Int) (w:World) (h:dQ w bw gs cap bp gp capp spin sl rest restp cs pm) (ht:t<sl.length) (hl:0≤sl[t].looks∧sl[t].looks≤1000) (hk:¬ sl[t].looks+1<spin):
  Calls Tryz.prog 67 #[.pointer (some ⟨bw,0,none⟩),.int .i64 (t:Int),.int .i64 addr] w fun e w'=>e= .returned (.bool true)∧Mod (fun q=>q=gs) w w'∧dQ w' bw gs cap bp gp capp spin (sl.set t ⟨0,addr⟩) rest restp cs pm:=by
 have H:=aA.mk h
 have b0:=(aC h.bI 0).trans rfl
 have b1:=(aC h.bI 1).trans rfl
 have b2:=(aC h.bI 2).trans rfl
 have s0:w.cell? ⟨gs,t*2,none⟩=some (.int .i64 sl[t].looks):=(aC h.row (t*2+0)).trans (cE sl rest t 0 ht (by decide))
 have s1:w.cell? ⟨gs,t*2+1,none⟩=some (.int .i64 sl[t].addr):=(aC h.row (t*2+1)).trans (cE sl rest t 1 ht (by decide))
 have f0:=aG h.row (t*2)
 have f1:=aG h.row (t*2+1)
 have i0:(0:Int)≤(t:Int):=by omega
 have i1:(t:Int)<(sl.length:Int):=by omega
 have i2:(sl.length:Int)≤64:=by have:=h.few;omega
 have n1:bw≠gs:=aK h.bI h.row (by decide)
 clear h
 have hs:IntKind.i64.wrap (sl[t].looks+1)=sl[t].looks+1:=IntWalk.i64_in _ (by omega)
 have e1:decide (sl[t].looks+1<spin)=false:=decide_eq_false hk
 clear hl hk
 go_enter Tryz.func67,Tryz.ntmps67
 go_wp2_with fail
 go_quiet (fail)
 go_wp2
 go_ret
 refine ⟨rfl,((((Mod.refl (fun q=>q=gs) w).setCell (p:=⟨gs,t*2,none⟩) rfl _).drewN _).setCell (p:=⟨gs,t*2,none⟩) rfl _).setCell (p:=⟨gs,t*2+1,none⟩) rfl _,?_⟩
 have K:=((H.out.set t 0 (.int .i64 (sl[t].looks+1)) ⟨sl[t].looks+1,sl[t].addr⟩ ht (by decide) rfl).below (aH (Below.refl _ _) nq)).set t 0 (.int .i64 0) ⟨0,sl[t].addr⟩ (by simpa using ht) (by decide) (by rw [List.getElem_set_self];rfl)
 rw [List.set_set] at K
 have K2:=K.set t 1 (.int .i64 addr) ⟨0,addr⟩ (by simpa using ht) (by decide) (by rw [List.getElem_set_self];rfl)
 rw [List.set_set] at K2
 exact K2
theorem cK {α:Type} (l:List α) (t u:Nat) (v z:α) (ht:t<l.length):(l.set t v).getD u z=if u=t then v else l.getD u z:=by
 rw [List.getD_eq_getElem?_getD,List.getD_eq_getElem?_getD,List.getElem?_set]
 by_cases h:t=u
 ·subst h;simp [ht]
 ·rw [if_neg h,if_neg (fun e=>h e.symm)]
theorem eG {α:Type} (l:List α) (t u:Nat) (v z:α):(l.set t v).getD u z=if u=t∧t<l.length then v else l.getD u z:=by
 by_cases ht:t<l.length
 ·rw [cK l t u v z ht];simp [ht]
 ·rw [List.set_eq_of_length_le (by omega)];simp [ht]
end Go.Proofs.YtjopodnlffaogaaGreatDoor.Tp
end
section
namespace Go.Proofs.YtjopodnlffaogaaGreatDoor.Tp
open Go.RowKit Go.Proofs.YtjopodnlffaogaaGreatDoorW.PrintWords Go.Proofs.YtjopodnlffaogaaGreatDoorW.PrintLast Go.Proofs.YtjopodnlffaogaaGreatDoorW.PrintMore
attribute [local go_sem] aU aQ aY aX aI aJ aT aN
open Go.Conc
structure rT (W:World) (bp gp capp:Nat) (restp:List Value) (cs:List Nat) (pm:List Bool):Prop where
 pblk:W.heap[bp]?=some (.cells #[.slice (some ⟨gp,0,none⟩) cs.length capp] 195 (0,0))
 prow:W.heap[gp]?=some (.cells (cs.map (fun c=>Value.chan (some c))++restp).toArray 196 (0,0))
 nodup:cs.Nodup
 chans:∀ i (h:i<cs.length),∃ v s r,W.heap[cs[i]]?=some (KY (pm.getD i false) v s r)
 plen:pm.length=cs.length
 few:cs.length≤64
theorem dQ.pm {W:World} {bw gs cap bp gp capp:Nat} {spin:Int} {sl:List Sl} {rest restp:List Value} {cs:List Nat} {pm:List Bool} (h:dQ W bw gs cap bp gp capp spin sl rest restp cs pm):rT W bp gp capp restp cs pm:=
 ⟨h.pblk,h.prow,h.nodup,h.chans,h.plen.trans h.len.symm,by rw [h.len];exact h.few⟩
theorem pB {W:World} {gp:Nat} {cs:List Nat} {restp:List Value} (h:W.heap[gp]?=some (.cells (cs.map (fun c=>Value.chan (some c))++restp).toArray 196 (0,0))) (t:Nat) (ht:t<cs.length):W.cell? ⟨gp,t,none⟩=some (.chan (some cs[t])):=by
 refine (aC h t).trans ?_
 rw [List.getElem?_toArray,List.getElem?_append_left (by simpa using ht),List.getElem?_map,List.getElem?_eq_getElem ht]
 rfl
theorem rT.chan {W:World} {bp gp capp:Nat} {restp:List Value} {cs:List Nat} {pm:List Bool} (h:rT W bp gp capp restp cs pm) (t:Nat) (ht:t<cs.length) (b:Bool) (v:Value) (s r:Nat):rT (W.setChan cs[t] 1 (if b then #[v] else #[]) false s r false) bp gp capp restp cs (pm.set t b):=by
 obtain ⟨v0,s0,r0,hc⟩:=h.chans t ht
 have hlt:cs[t]<W.heap.size:=(Array.getElem?_eq_some_iff.1 hc).1
 have fU:∀ {q ty:Nat} {c:Array Value},W.heap[q]?=some (.cells c ty (0,0))→(W.setChan cs[t] 1 (if b then #[v] else #[]) false s r false).heap[q]?=some (.cells c ty (0,0)):=fun {q ty c} hq=>by
  have hne:cs[t]≠q:=fun e=>by rw [e,hq] at hc;cases hc
  simp only [World.setChan]
  rw [Array.getElem?_setIfInBounds_ne hne]
  exact hq
 refine ⟨fU h.pblk,fU h.prow,h.nodup,fun i hi=>?_,by rw [List.length_set];exact h.plen,h.few⟩
 by_cases e:i=t
 ·subst e
  refine ⟨v,s,r,?_⟩
  have e:(pm.set i b).getD i false=b:=by rw [eG,if_pos ⟨rfl,by rw [h.plen];exact hi⟩]
  rw [heap_setChan _ _ _ _ _ _ _ _ hlt,e]
  rfl
 ·obtain ⟨v',s',r',hc'⟩:=h.chans i hi
  refine ⟨v',s',r',?_⟩
  have hne:cs[t]≠cs[i]:=fun e'=>e ((List.getElem_inj h.nodup).1 e').symm
  simp only [World.setChan]
  rw [Array.getElem?_setIfInBounds_ne hne,eG pm t i b false,if_neg (fun hh=>e hh.1)]
  exact hc'
theorem sU (W:World) (c cap:Nat) (buf:Array Value) (cl:Bool) (s r:Nat) (tm:Bool):Mod (fun q=>q=c) W (W.setChan c cap buf cl s r tm):=
 ⟨rfl,rfl,rfl,by simp [World.setChan],fun k _ hk=>by simp only [World.setChan];rw [Array.getElem?_setIfInBounds_ne (fun e=>hk e.symm)]⟩
theorem pQ (bp gp capp:Nat) (restp:List Value) (cs:List Nat) (pm:List Bool) (t:Nat) (w:World) (h:rT w bp gp capp restp cs pm) (ht:t<cs.length):
  Calls Tryz.prog 180 #[.pointer (some ⟨bp,0,none⟩),.int .i64 (t:Int)] w fun e w'=>e= .returned (.bool true)∧w=w':=by
 have H:=aA.mk h
 have b0:=(aC h.pblk 0).trans rfl
 have c0:=pB h.prow t ht
 have i0:(0:Int)≤(t:Int):=by omega
 have i1:(t:Int)<(cs.length:Int):=by omega
 have i2:(cs.length:Int)≤64:=by have:=h.few;omega
 have e0:decide ((0:Int)≤(t:Int))=true:=decide_eq_true i0
 have e1:decide ((t:Int)<(cs.length:Int))=true:=decide_eq_true i1
 obtain ⟨v,s,r,hc⟩:=h.chans t ht
 have HC:=aA.mk hc
 clear h hc
 go_enter Tryz.func180,Tryz.ntmps180
 go_wp2
 go_ret
 exact ⟨rfl,rfl⟩
theorem JC (bp gp capp:Nat) (restp:List Value) (cs:List Nat) (pm:List Bool) (t:Nat) (w:World) (h:rT w bp gp capp restp cs pm) (ht:t<cs.length) (hp:pm.getD t false=true):
  Calls Tryz.prog 122 #[.pointer (some ⟨bp,0,none⟩),.int .i64 (t:Int)] w fun e w'=>e= .returned (.tuple #[.bool true,.int .i64 0])∧Mod (fun q=>q=cs[t]) w w'∧rT w' bp gp capp restp cs (pm.set t false):=by
 have H:=aA.mk h
 have b0:=(aC h.pblk 0).trans rfl
 have c0:=pB h.prow t ht
 have i0:(0:Int)≤(t:Int):=by omega
 have i1:(t:Int)<(cs.length:Int):=by omega
 have i2:(cs.length:Int)≤64:=by have:=h.few;omega
 have e0:decide ((0:Int)≤(t:Int))=true:=decide_eq_true i0
 have e1:decide ((t:Int)<(cs.length:Int))=true:=decide_eq_true i1
 obtain ⟨v,s,r,hc⟩:=h.chans t ht
 have HC:=aA.mk hc
 clear h hc
 refine calls_of_loneTo (fun fs=>?_)
 have ee:Frame.enter Tryz.prog 122 #[.pointer (some ⟨bp,0,none⟩),.int .i64 (t:Int)] .normal=(base 122).at ⟨#[.pointer (some ⟨bp,0,none⟩),.int .i64 (t:Int),undef,undef,undef,undef,undef,undef,undef,undef,undef,undef,undef,undef,undef,undef,undef,undef,undef,undef],[]⟩ [.code (Tryz.f122.body.getD .skip)]:=by
  simp [Frame.enter,Frame.at,Tryz.func122,base,Tryz.f122]
  try rfl
 rw [ee]
 clear ee
 refine LoneTo.goes (n:=80) ?_
 simp only [Tryz.f122,Option.getD_some]
 s_c stepG_seq
 s_reg
 s_op
 s_op
 s_c stepG_region_end
 s_c stepG_seq
 s_c stepG_seq
 s_reg
 s_op
 s_op
 s_call Tryz.func180 (by kernel_rfl) Tryz.f180
 s_c stepG_seq
 s_reg
 s_op
 s_c stepG_region_end
 s_c stepG_seq
 s_reg
 s_op
 s_op
 s_op
 s_op
 s_op
 s_op
 s_op
 s_op
 s_op
 s_op
 s_op
 s_op
 s_c stepG_region_end
 s_c stepG_ret'
 s_leave1 Tryz.func180
 s_op
 s_c stepG_region_end
 s_cond false
 s_c stepG_skip
 s_c stepG_seq
 s_reg
 s_op
 s_op
 s_op
 s_op
 s_op
 s_op
 s_op
 s_c stepG_region_end
 s_c stepG_seq
 s_reg
 s_stop
 refine LoneTo.step (step_lone_select_recv_buf (c:=cs[t]) (z:= .int .i64 0) (buf:=#[v]) (closed:=false) (cap:=1) (s:=s) (r:=r) (tm:=false) (stepG_comm (cases:=#[rcase cs[t] (.int .i64 0)]) (blocking:=false) (shape:= .select) (w':=w) rfl rfl (by decide) (by simp [go_sem,execOp,rcase,Act.eval])) (HC.out.trans (by rw [hp];rfl)) (by simp)) ?_
 rw [Frame.finish_at]
 walk_nrm
 refine LoneTo.goes (n:=30) ?_
 s_op
 s_op
 s_c stepG_region_end
 s_c stepG_block
 s_cond true
 s_c stepG_seq
 s_reg
 s_op
 s_op
 s_c stepG_region_end
 s_c stepG_ret'
 s_stop
 exact LoneTo.done ⟨.returned (.tuple #[.bool true,.int .i64 0]),_,rfl,⟨rfl,sU _ _ _ _ _ _ _ _,H.out.chan t ht false v s (r+1)⟩,rfl,rfl,rfl,rfl,_,Tryz.func122,by simp [results,Tryz.f122,Frame.at]⟩
theorem MO (bp gp capp:Nat) (restp:List Value) (cs:List Nat) (pm:List Bool) (t:Nat) (w:World) (h:rT w bp gp capp restp cs pm) (ht:t<cs.length) (hp:pm.getD t false=false):
  Calls Tryz.prog 122 #[.pointer (some ⟨bp,0,none⟩),.int .i64 (t:Int)] w fun e w'=>e= .returned (.tuple #[.bool false,.int .i64 0])∧w=w':=by
 have H:=aA.mk h
 have b0:=(aC h.pblk 0).trans rfl
 have c0:=pB h.prow t ht
 have i0:(0:Int)≤(t:Int):=by omega
 have i1:(t:Int)<(cs.length:Int):=by omega
 have i2:(cs.length:Int)≤64:=by have:=h.few;omega
 have e0:decide ((0:Int)≤(t:Int))=true:=decide_eq_true i0
 have e1:decide ((t:Int)<(cs.length:Int))=true:=decide_eq_true i1
 obtain ⟨v,s,r,hc⟩:=h.chans t ht
 have HC:=aA.mk hc
 clear h hc
 refine calls_of_loneTo (fun fs=>?_)
 have ee:Frame.enter Tryz.prog 122 #[.pointer (some ⟨bp,0,none⟩),.int .i64 (t:Int)] .normal=(base 122).at ⟨#[.pointer (some ⟨bp,0,none⟩),.int .i64 (t:Int),undef,undef,undef,undef,undef,undef,undef,undef,undef,undef,undef,undef,undef,undef,undef,undef,undef,undef],[]⟩ [.code (Tryz.f122.body.getD .skip)]:=by
  simp [Frame.enter,Frame.at,Tryz.func122,base,Tryz.f122]
  try rfl
 rw [ee]
 clear ee
 refine LoneTo.goes (n:=80) ?_
 simp only [Tryz.f122,Option.getD_some]
 s_c stepG_seq
 s_reg
 s_op
 s_op
 s_c stepG_region_end
 s_c stepG_seq
 s_c stepG_seq
 s_reg
 s_op
 s_op
 s_call Tryz.func180 (by kernel_rfl) Tryz.f180
 s_c stepG_seq
 s_reg
 s_op
 s_c stepG_region_end
 s_c stepG_seq
 s_reg
 s_op
 s_op
 s_op
 s_op
 s_op
 s_op
 s_op
 s_op
 s_op
 s_op
 s_op
 s_op
 s_c stepG_region_end
 s_c stepG_ret'
 s_leave1 Tryz.func180
 s_op
 s_c stepG_region_end
 s_cond false
 s_c stepG_skip
 s_c stepG_seq
 s_reg
 s_op
 s_op
 s_op
 s_op
 s_op
 s_op
 s_op
 s_c stepG_region_end
 s_c stepG_seq
 s_reg
 s_stop
 refine LoneTo.step (step_lone_select_default (c:=cs[t]) (z:= .int .i64 0) (cap:=1) (s:=s) (r:=r) (tm:=false) (stepG_comm (cases:=#[rcase cs[t] (.int .i64 0)]) (blocking:=false) (shape:= .select) (w':=w) rfl rfl (by decide) (by simp [go_sem,execOp,rcase,Act.eval])) (HC.out.trans (by rw [hp];rfl))) ?_
 rw [Frame.finish_at]
 walk_nrm
 refine LoneTo.goes (n:=30) ?_
 s_op
 s_op
 s_c stepG_region_end
 s_c stepG_block
 s_cond false
 s_c stepG_seq
 s_reg
 s_op
 s_op
 s_c stepG_region_end
 s_c stepG_ret'
 s_stop
 exact LoneTo.done ⟨.returned (.tuple #[.bool false,.int .i64 0]),_,rfl,⟨rfl,rfl⟩,rfl,rfl,rfl,rfl,_,Tryz.func122,by simp [results,Tryz.f122,Frame.at]⟩
theorem JR (bp gp capp:Nat) (restp:List Value) (cs:List Nat) (pm:List Bool) (t:Nat) (w:World) (h:rT w bp gp capp restp cs pm) (ht:t<cs.length) (hp:pm.getD t false=false):
  Calls Tryz.prog 130 #[.pointer (some ⟨bp,0,none⟩),.int .i64 (t:Int)] w fun e w'=>e= .returned (.tuple #[.bool true,.int .i64 0])∧Mod (fun q=>q=cs[t]) w w'∧rT w' bp gp capp restp cs (pm.set t true):=by
 have H:=aA.mk h
 have b0:=(aC h.pblk 0).trans rfl
 have c0:=pB h.prow t ht
 have i0:(0:Int)≤(t:Int):=by omega
 have i1:(t:Int)<(cs.length:Int):=by omega
 have i2:(cs.length:Int)≤64:=by have:=h.few;omega
 have e0:decide ((0:Int)≤(t:Int))=true:=decide_eq_true i0
 have e1:decide ((t:Int)<(cs.length:Int))=true:=decide_eq_true i1
 obtain ⟨v,s,r,hc⟩:=h.chans t ht
 have HC:=aA.mk hc
 clear h hc
 refine calls_of_loneTo (fun fs=>?_)
 have ee:Frame.enter Tryz.prog 130 #[.pointer (some ⟨bp,0,none⟩),.int .i64 (t:Int)] .normal=(base 130).at ⟨#[.pointer (some ⟨bp,0,none⟩),.int .i64 (t:Int),undef,undef,undef,undef,undef,undef,undef,undef,undef,undef,undef,undef,undef,undef,undef,undef,undef,undef,undef],[]⟩ [.code (Tryz.f130.body.getD .skip)]:=by
  simp [Frame.enter,Frame.at,Tryz.func130,base,Tryz.f130]
  try rfl
 rw [ee]
 clear ee
 refine LoneTo.goes (n:=80) ?_
 simp only [Tryz.f130,Option.getD_some]
 s_c stepG_seq
 s_reg
 s_op
 s_op
 s_c stepG_region_end
 s_c stepG_seq
 s_c stepG_seq
 s_reg
 s_op
 s_op
 s_call Tryz.func180 (by kernel_rfl) Tryz.f180
 s_c stepG_seq
 s_reg
 s_op
 s_c stepG_region_end
 s_c stepG_seq
 s_reg
 s_op
 s_op
 s_op
 s_op
 s_op
 s_op
 s_op
 s_op
 s_op
 s_op
 s_op
 s_op
 s_c stepG_region_end
 s_c stepG_ret'
 s_leave1 Tryz.func180
 s_op
 s_c stepG_region_end
 s_cond false
 s_c stepG_skip
 s_c stepG_seq
 s_c stepG_seq
 s_reg
 s_op
 s_op
 s_op
 s_op
 s_op
 s_op
 s_op
 s_c stepG_region_end
 s_reg
 s_op
 s_c stepG_region_end
 s_c stepG_seq
 s_reg
 s_stop
 refine LoneTo.step (step_lone_select_send_room (c:=cs[t]) (v:= .int .i64 (t:Int)) (z':= .int .i64 0) (buf:=#[]) (cap:=1) (s:=s) (r:=r) (tm:=false) (stepG_comm (cases:=#[scase cs[t] (.int .i64 (t:Int)) (.int .i64 0)]) (blocking:=false) (shape:= .select) (w':=w) rfl rfl (by decide) (by simp [go_sem,execOp,scase,Act.eval])) (HC.out.trans (by rw [hp];rfl)) (by simp)) ?_
 rw [Frame.finish_at]
 walk_nrm
 refine LoneTo.goes (n:=30) ?_
 s_op
 s_op
 s_c stepG_region_end
 s_c stepG_block
 s_cond true
 s_c stepG_seq
 s_reg
 s_op
 s_op
 s_c stepG_region_end
 s_c stepG_ret'
 s_stop
 exact LoneTo.done ⟨.returned (.tuple #[.bool true,.int .i64 0]),_,rfl,⟨rfl,sU _ _ _ _ _ _ _ _,H.out.chan t ht true (.int .i64 (t:Int)) (s+1) r⟩,rfl,rfl,rfl,rfl,_,Tryz.func130,by simp [results,Tryz.f130,Frame.at]⟩
theorem N5 (bp gp capp:Nat) (restp:List Value) (cs:List Nat) (pm:List Bool) (t:Nat) (w:World) (h:rT w bp gp capp restp cs pm) (ht:t<cs.length) (hp:pm.getD t false=true):
  Calls Tryz.prog 130 #[.pointer (some ⟨bp,0,none⟩),.int .i64 (t:Int)] w fun e w'=>e= .returned (.tuple #[.bool false,.int .i64 0])∧w=w':=by
 have H:=aA.mk h
 have b0:=(aC h.pblk 0).trans rfl
 have c0:=pB h.prow t ht
 have i0:(0:Int)≤(t:Int):=by omega
 have i1:(t:Int)<(cs.length:Int):=by omega
 have i2:(cs.length:Int)≤64:=by have:=h.few;omega
 have e0:decide ((0:Int)≤(t:Int))=true:=decide_eq_true i0
 have e1:decide ((t:Int)<(cs.length:Int))=true:=decide_eq_true i1
 obtain ⟨v,s,r,hc⟩:=h.chans t ht
 have HC:=aA.mk hc
 clear h hc
 refine calls_of_loneTo (fun fs=>?_)
 have ee:Frame.enter Tryz.prog 130 #[.pointer (some ⟨bp,0,none⟩),.int .i64 (t:Int)] .normal=(base 130).at ⟨#[.pointer (some ⟨bp,0,none⟩),.int .i64 (t:Int),undef,undef,undef,undef,undef,undef,undef,undef,undef,undef,undef,undef,undef,undef,undef,undef,undef,undef,undef],[]⟩ [.code (Tryz.f130.body.getD .skip)]:=by
  simp [Frame.enter,Frame.at,Tryz.func130,base,Tryz.f130]
  try rfl
 rw [ee]
 clear ee
 refine LoneTo.goes (n:=80) ?_
 simp only [Tryz.f130,Option.getD_some]
 s_c stepG_seq
 s_reg
 s_op
 s_op
 s_c stepG_region_end
 s_c stepG_seq
 s_c stepG_seq
 s_reg
 s_op
 s_op
 s_call Tryz.func180 (by kernel_rfl) Tryz.f180
 s_c stepG_seq
 s_reg
 s_op
 s_c stepG_region_end
 s_c stepG_seq
 s_reg
 s_op
 s_op
 s_op
 s_op
 s_op
 s_op
 s_op
 s_op
 s_op
 s_op
 s_op
 s_op
 s_c stepG_region_end
 s_c stepG_ret'
 s_leave1 Tryz.func180
 s_op
 s_c stepG_region_end
 s_cond false
 s_c stepG_skip
 s_c stepG_seq
 s_c stepG_seq
 s_reg
 s_op
 s_op
 s_op
 s_op
 s_op
 s_op
 s_op
 s_c stepG_region_end
 s_reg
 s_op
 s_c stepG_region_end
 s_c stepG_seq
 s_reg
 s_stop
 refine LoneTo.step (step_lone_select_send_full (c:=cs[t]) (v:= .int .i64 (t:Int)) (z':= .int .i64 0) (buf:=#[v]) (cap:=1) (s:=s) (r:=r) (tm:=false) (stepG_comm (cases:=#[scase cs[t] (.int .i64 (t:Int)) (.int .i64 0)]) (blocking:=false) (shape:= .select) (w':=w) rfl rfl (by decide) (by simp [go_sem,execOp,scase,Act.eval])) (HC.out.trans (by rw [hp];rfl)) (by simp)) ?_
 rw [Frame.finish_at]
 walk_nrm
 refine LoneTo.goes (n:=30) ?_
 s_op
 s_op
 s_c stepG_region_end
 s_c stepG_block
 s_cond false
 s_c stepG_seq
 s_reg
 s_op
 s_op
 s_c stepG_region_end
 s_c stepG_ret'
 s_stop
 exact LoneTo.done ⟨.returned (.tuple #[.bool false,.int .i64 0]),_,rfl,⟨rfl,rfl⟩,rfl,rfl,rfl,rfl,_,Tryz.func130,by simp [results,Tryz.f130,Frame.at]⟩
theorem und196:Tryz.prog.underlying 196=some (.chan .both 3):=by kernel_rfl
theorem tN (bp gp capp:Nat) (restp:List Value) (cs:List Nat) (pm:List Bool) (t:Nat) (w:World) (h:rT w bp gp capp restp cs pm) (ht:t<cs.length):
  Calls Tryz.prog 129 #[.pointer (some ⟨bp,0,none⟩),.int .i64 (t:Int)] w fun e w'=>e= .returned (.bool (pm.getD t false))∧w=w':=by
 have H:=aA.mk h
 have b0:=(aC h.pblk 0).trans rfl
 have c0:=pB h.prow t ht
 have i0:(0:Int)≤(t:Int):=by omega
 have i1:(t:Int)<(cs.length:Int):=by omega
 have i2:(cs.length:Int)≤64:=by have:=h.few;omega
 have e0:decide ((0:Int)≤(t:Int))=true:=decide_eq_true i0
 have e1:decide ((t:Int)<(cs.length:Int))=true:=decide_eq_true i1
 obtain ⟨v,s,r,hc⟩:=h.chans t ht
 have HC:=aA.mk hc
 clear h hc
 have hl:=run_len_chan (P:=Tryz.prog) (w:=w) 196 3 und196 HC.out
 generalize pm.getD t false=hp at hl HC ⊢
 cases hp with
 |true=>
  change _=Result.ok (Value.int .i64 1) w at hl
  go_enter Tryz.func129,Tryz.ntmps129
  go_wp2_with (go_at_call 180;refine (pQ bp gp capp restp cs pm t w H.out ht).mono ?_;rintro e w9 ⟨rfl,rfl⟩)
  go_ret
  exact ⟨rfl,rfl⟩
 |false=>
  change _=Result.ok (Value.int .i64 0) w at hl
  go_enter Tryz.func129,Tryz.ntmps129
  go_wp2_with (go_at_call 180;refine (pQ bp gp capp restp cs pm t w H.out ht).mono ?_;rintro e w9 ⟨rfl,rfl⟩)
  go_ret
  exact ⟨rfl,rfl⟩
end Go.Proofs.YtjopodnlffaogaaGreatDoor.Tp
end
section
namespace Go.Proofs.YtjopodnlffaogaaGreatDoor.Tp
open Go.RowKit Go.Proofs.YtjopodnlffaogaaGreatDoorW.PrintWords Go.Proofs.YtjopodnlffaogaaGreatDoorW.PrintLast Go.Proofs.YtjopodnlffaogaaGreatDoorW.PrintMore
attribute [local go_sem] aU aQ aY aX aI aJ aT aN
theorem I8 (b g m first:Nat) (w:World) (hb:w.heap[b]?=some (.cells (fT g m first 0) 284 (0,0))):
  Calls Tryz.prog 181 #[.pointer (some ⟨b,0,none⟩)] w fun e w'=>e= .returned (.tuple #[.int .u32 0,.bool false])∧w=w':=by
 have c2:=(aC hb 2).trans rfl
 clear hb
 go_enter Tryz.func181,Tryz.ntmps181
 go_wp2
 go_ret2
 exact ⟨rfl,rfl⟩
theorem FY (b g m first n:Nat) (xs:List Int) (w:World) (hb:w.heap[b]?=some (.cells (fT g m first n) 284 (0,0))) (hg:w.heap[g]?=some (.cells (cU xs) 22 (0,0))) (hx:xs.length=m) (hn:n≤m) (h0:0<n) (hm:m≤4096) (hf:first<m):
  Calls Tryz.prog 181 #[.pointer (some ⟨b,0,none⟩)] w fun e w'=>e= .returned (.tuple #[.int .u32 (xs.getD first 0),.bool true])∧Mod (fun k=>k=b∨k=g) w w'∧w'.heap[b]?=some (.cells (fT g m ((first+1) % m) (n - 1)) 284 (0,0))∧w'.heap[g]?=some (.cells (cU (xs.set first 0)) 22 (0,0)):=by
 have P:=aA.mk (fun (W:World) (h:W.heap[b]?=some (.cells (fT g m first n) 284 (0,0)))=>GH b g m first n 1 W h (by omega) hm (by omega) (by omega))
 generalize (first+1) % m=j at P ⊢
 have hne:b≠g:=aK hb hg (by decide)
 have hne2:g≠b:=hne.symm
 have c0:=(aC hb 0).trans rfl
 have c1:=(aC hb 1).trans rfl
 have c2:=(aC hb 2).trans rfl
 have cj:=(aC hg first).trans (jM xs first (by omega))
 have fj:=aG hg first
 have ht:((n:Int)==0)=false:=beq_eq_false_iff_ne.mpr (by omega)
 have hs:IntKind.i64.wrap ((n:Int) - 1)=((n - 1:Nat):Int):=cD _ _ (by omega) (by omega)
 have i0:(0:Int)≤(first:Int):=by omega
 have i1:(first:Int)<(m:Int):=by omega
 have m1:(m:Int)≤4096:=by omega
 have HX:=aA.mk (⟨hb,hg⟩:w.heap[b]?=some (.cells (fT g m first n) 284 (0,0))∧w.heap[g]?=some (.cells (cU xs) 22 (0,0)))
 clear hb hg hx hn h0 hm hf
 go_enter Tryz.func181,Tryz.ntmps181
 go_wp2
 go_quiet (fail)
 go_wp2
 go_region
 change Exit.then _ _ _ _ _
 have n0:=aA.mk (show ((w.drewN (nq+1)).setCell ⟨g,first,none⟩ (.int .u32 0)).heap[b]?=some (.cells (fT g m first n) 284 (0,0)) from bB (p:=⟨g,first,none⟩) (l8 HX.out.1 _) hne (.int .u32 0))
 have n1:=aA.mk (show ((w.drewN (nq+1)).setCell ⟨g,first,none⟩ (.int .u32 0)).heap[g]?=some (.cells (cU (xs.set first 0)) 22 (0,0)) from (bE (l8 HX.out.2 _) first (.int .u32 0)).trans (by rw [kJ]))
 have HM:=aA.mk (show Mod (fun k=>k=b∨k=g) w ((w.drewN (nq+1)).setCell ⟨g,first,none⟩ (.int .u32 0)) from ((Mod.refl _ w).drewN _).setCell (p:=⟨g,first,none⟩) (Or.inr rfl) (.int .u32 0))
 generalize (w.drewN (nq+1)).setCell ⟨g,first,none⟩ (.int .u32 0)=w1 at n0 n1 HM ⊢
 clear c0 c1 c2 cj fj ht HX
 go_wp2_with fail

 refine dB (n:=15) (S:=fun w'=>w'.heap[b]?=some (.cells (fT g m first n) 284 (0,0))) (ds:= [11,14]) #[false,false,false,false,false,false,false,false,false,false,false,false,false,false,false] (by kernel_rfl) rfl rfl n0.out (fun hHeld=>?_)
 replace n0:=aA.mk (drew_ n0.out)
 replace n1:=aA.mk (drew_ n1.out)
 replace HM:=aA.mk (HM.out.drew)
 generalize w1.drew=w2 at n0 n1 HM hHeld ⊢
 refine pur_ 0 32 ?_
 refine pur_ 1 33 ?_
 refine pur_ 2 34 ?_
 refine pur_ 4 36 ?_
 refine pur_ 5 37 ?_
 refine pur_ 6 38 ?_
 refine tak_ 7 39 (.int .i64 (n:Int)) ?_ hHeld ?_
 ·intro w' hS
  have c2:=(aC hS 2).trans rfl
  clear hHeld hS
  go_simp
 refine pur_ 8 40 ?_
 refine on_ 3 35 (fun K hK=>?_)
 refine goe_ Tryz.func206 #[.pointer (some ⟨b,0,none⟩),.int .i64 1] ?_
 refine (P.out _ n0.out).mono ?_
 rintro e w9 ⟨rfl,hd⟩
 have hb:=hd.below
 clear hd
 refine ⟨_,rfl,?_⟩
 replace n0:=aA.mk (aE n0.out hb)
 replace n1:=aA.mk (aE n1.out hb)
 replace HM:=aA.mk (HM.out.step hb)
 clear hb hHeld
 refine hK.out _ _ n0.out (fun hHeld=>?_)
 clear hK K
 refine nor_ ?_
 refine pur_ 9 41 ?_
 refine pur_ 10 42 ?_
 refine fX (i:=11) (N:=none) #[true,true,true,true,true,true,true,true,true,true,true,true,false,false,false] rfl rfl (by kernel_rfl) (by decide) (fun K hK=>?_)
 refine iH (w1:=w9.setCell ⟨b,1,none⟩ (.int .i64 (j:Int))) (by rfl) rfl ?_ ?_
 ·clear hK hHeld
  have cj:=(aC n0.out 1).trans rfl
  have fj:=aG n0.out 1
  go_simp
 replace n0:=aA.mk ((bE n0.out 1 (.int .i64 (j:Int))).trans rfl)
 replace n1:=aA.mk (bB (p:=⟨b,1,none⟩) n1.out hne2 (.int .i64 (j:Int)))
 replace HM:=aA.mk (HM.out.setCell (p:=⟨b,1,none⟩) (Or.inl rfl) (.int .i64 (j:Int)))
 clear hHeld
 generalize w9.setCell ⟨b,1,none⟩ (.int .i64 (j:Int))=w3 at n0 n1 HM ⊢
 refine hK.out _ _ ?_
 clear hK K
 refine pur_ 12 43 ?_
 refine pur_ 13 44 ?_
 refine fX (i:=14) (N:=none) #[true,true,true,true,true,true,true,true,true,true,true,true,true,true,true] rfl rfl (by kernel_rfl) (by decide) (fun K hK=>?_)
 refine iH (w1:=w3.setCell ⟨b,2,none⟩ (.int .i64 ((n - 1:Nat):Int))) (by rfl) rfl ?_ ?_
 ·clear hK
  have cj:=(aC n0.out 2).trans rfl
  have fj:=aG n0.out 2
  go_simp
 replace n0:=aA.mk ((bE n0.out 2 (.int .i64 ((n - 1:Nat):Int))).trans rfl)
 replace n1:=aA.mk (bB (p:=⟨b,2,none⟩) n1.out hne2 (.int .i64 ((n - 1:Nat):Int)))
 replace HM:=aA.mk (HM.out.setCell (p:=⟨b,2,none⟩) (Or.inl rfl) (.int .i64 ((n - 1:Nat):Int)))
 generalize w3.setCell ⟨b,2,none⟩ (.int .i64 ((n - 1:Nat):Int))=w4 at n0 n1 HM ⊢
 refine hK.out _ _ ?_
 clear hK K
 refine eO (by kernel_rfl) ?_
 go_wp2
 go_ret2
 exact ⟨rfl,HM.out,n0.out,n1.out⟩
theorem SY (b g n i:Nat) (xs:List Int) (o v:Int) (w:World) (hb:w.heap[b]?=some (.cells (dD g n) 310 (0,0))) (hg:w.heap[g]?=some (.cells (cU xs) 314 (0,0))) (hx:xs.length=n) (hi:i<n) (hn:n≤8192) (he:xs.getD i 0=o):
  Calls Tryz.prog 186 #[.pointer (some ⟨b,0,none⟩),.int .i64 (i:Int),.int .u32 o,.int .u32 v] w fun e w'=>e= .returned (.bool true)∧Mod (fun k=>k=g) w w'∧w'.heap[g]?=some (.cells (cU (xs.set i (v))) 314 (0,0)):=by
 have c0:=(aC hb 0).trans rfl
 have ci:=(aC hg i).trans (jM xs i (by omega))
 have fi:=aG hg i
 have i0:(0:Int)≤(i:Int):=by omega
 have i1:(i:Int)<(n:Int):=by omega
 have n1:(n:Int)≤8192:=by omega
 have HX:=aA.mk (⟨hb,hg,hx,hi⟩:w.heap[b]?=some (.cells (dD g n) 310 (0,0))∧w.heap[g]?=some (.cells (cU xs) 314 (0,0))∧xs.length=n∧i<n)
 have P:=aA.mk (FL ⟨g,i,none⟩ o v w (by rw [ci,he]) fi)
 clear hb hg hx hi hn ci fi he
 go_enter Tryz.func186,Tryz.ntmps186
 go_wp2_with (go_at_call 219;refine P.out.mono ?_;rintro e w1 ⟨rfl,rfl⟩)

 go_ret
 exact ⟨rfl,(Mod.refl (fun k=>k=g) w).setCell (p:=⟨g,i,none⟩) rfl _,(bE HX.out.2.1 i _).trans (by rw [kJ])⟩
theorem M4 (b g n i:Nat) (xs:List Int) (o v:Int) (w:World) (hb:w.heap[b]?=some (.cells (dD g n) 310 (0,0))) (hg:w.heap[g]?=some (.cells (cU xs) 314 (0,0))) (hx:xs.length=n) (hi:i<n) (hn:n≤8192) (he:¬ xs.getD i 0=o):
  Calls Tryz.prog 186 #[.pointer (some ⟨b,0,none⟩),.int .i64 (i:Int),.int .u32 o,.int .u32 v] w fun e w'=>e= .returned (.bool false)∧w=w':=by
 have c0:=(aC hb 0).trans rfl
 have ci:=(aC hg i).trans (jM xs i (by omega))
 have fi:=aG hg i
 have i0:(0:Int)≤(i:Int):=by omega
 have i1:(i:Int)<(n:Int):=by omega
 have n1:(n:Int)≤8192:=by omega
 have HX:=aA.mk (⟨hb,hg,hx,hi⟩:w.heap[b]?=some (.cells (dD g n) 310 (0,0))∧w.heap[g]?=some (.cells (cU xs) 314 (0,0))∧xs.length=n∧i<n)
 have P:=aA.mk (NQ ⟨g,i,none⟩ _ o v w ci fi he)
 clear hb hg hx hi hn ci fi he
 go_enter Tryz.func186,Tryz.ntmps186
 go_wp2_with (go_at_call 219;refine P.out.mono ?_;rintro e w1 ⟨rfl,rfl⟩)

 go_ret
 exact ⟨rfl,rfl⟩
theorem cAdd (b g n i:Nat) (xs:List Int) (k:Int) (w:World) (hb:w.heap[b]?=some (.cells (dD g n) 310 (0,0))) (hg:w.heap[g]?=some (.cells (cU xs) 314 (0,0))) (hx:xs.length=n) (hi:i<n) (hn:n≤8192) (h0:0≤xs.getD i 0) (h1:xs.getD i 0<4294967296):
  Calls Tryz.prog 187 #[.pointer (some ⟨b,0,none⟩),.int .i64 (i:Int),.int .u32 k] w fun e w'=>e= .returned (.int .u32 (xs.getD i 0))∧Mod (fun k=>k=g) w w'∧w'.heap[g]?=some (.cells (cU (xs.set i ((xs.getD i 0+k) % 4294967296))) 314 (0,0)):=by
 have c0:=(aC hb 0).trans rfl
 have ci:=(aC hg i).trans (jM xs i (by omega))
 have fi:=aG hg i
 have i0:(0:Int)≤(i:Int):=by omega
 have i1:(i:Int)<(n:Int):=by omega
 have n1:(n:Int)≤8192:=by omega
 have HX:=aA.mk (⟨hb,hg,hx,hi⟩:w.heap[b]?=some (.cells (dD g n) 310 (0,0))∧w.heap[g]?=some (.cells (cU xs) 314 (0,0))∧xs.length=n∧i<n)
 have P:=aA.mk (aAdd ⟨g,i,none⟩ _ k w ci fi)
 have hs:IntKind.u32.wrap ((xs.getD i 0+k) % 4294967296 - k)=xs.getD i 0:=by rw [IntKind.wrap_u32];omega
 have HX2:=aA.mk (⟨h0,h1⟩:0≤xs.getD i 0∧xs.getD i 0<4294967296)
 generalize xs.getD i 0=z at ci P hs HX2 ⊢
 clear hb hg hx hi hn ci fi h0 h1
 go_enter Tryz.func187,Tryz.ntmps187
 go_wp2_with (go_at_call 220;refine P.out.mono ?_;rintro e w1 ⟨rfl,rfl⟩)

 go_ret
 exact ⟨rfl,(Mod.refl (fun k=>k=g) w).setCell (p:=⟨g,i,none⟩) rfl _,(bE HX.out.2.1 i _).trans (by rw [kJ])⟩
end Go.Proofs.YtjopodnlffaogaaGreatDoor.Tp
end
