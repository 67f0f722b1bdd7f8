/- A part of the proof of TopSame: TmMc0, TmPk2, TmWr, TmSolo, TmMOk, TmMw, TmEnter, TmCame, TmLaw12, TmLaw12b, TmCode, TmNew, TmLone0, TmLone1, TmLone2, TmLone3, TmLone4, TmLone5. -/
import Derived.Test.YtjopodnlffaogaaGreatDoorSM5
import Derived.Test.YtjopodnlffaogaaGreatDoorSMNew
set_option linter.unusedVariables false
set_option linter.unusedSimpArgs false
set_option maxRecDepth 100000
set_option maxHeartbeats 4000000
section
namespace Go.Proofs.YtjopodnlffaogaaGreatDoor.Tp
open Go.RowKit Go.Proofs.YtjopodnlffaogaaGreatDoorW.PrintWords Go.Proofs.YtjopodnlffaogaaGreatDoorW.PrintLast Go.Proofs.YtjopodnlffaogaaGreatDoorW.PrintMore
attribute [local go_sem] aU aQ aY aX aI aJ aT aN
structure LP where
 k:Int
 t:Int
 now:Int
structure MS where
 x:XS
 sl:List Sl
 pm:List Bool
 th:List H9
 now:Int
 seen:List LP
def dE:H9:=⟨0,0,0⟩
def rP:Sl:=⟨0,-1⟩
def mW (k:Int):Int:=if k=1 then 2 else if k=2 then 3 else if k=3 then 4 else if k=4 then 9 else 0
def wC (d:Int):Int:=if d=0 then 6 else if d=1 then 5 else if d=2 then 10 else 7
def oE (d:Int):Int:=if d=1 then 2 else 0
def fY (s:MS) (t:Nat):Bool:=decide ((s.th.getD t dE).state=1∧(s.th.getD t dE).deadline≠ -1∧(s.th.getD t dE).deadline≤s.now)
def cM (s:MS) (k:Int) (t:Nat):MS:= { s with seen:=s.seen++ [⟨k,t,s.now⟩] }
def bP (s:MS) (t:Nat) (x:H9):MS:= { s with th:=s.th.set t x }
def eJ (s:MS) (t:Nat) (ms:List Int):MS:=ms.foldl (fun s k=>cM s (mW k) t) s
def nM (s:MS) (t:Nat) (ms:List Int) (dn:Int):MS:=
 let s1:=eJ s t ms
 if 0≤dn then
  let s2:=cM s1 (wC dn) t
  bP s2 t ⟨oE dn,(s2.th.getD t dE).deadline,(s2.th.getD t dE).steps⟩
 else s1
def iP (s:MS) (t:Nat):Bool:=(s.sl.getD t rP).addr== -1 || s.pm.getD t false
def bN (s:MS) (t:Nat):MS:=if (s.sl.getD t rP).addr= -1 then s else if s.pm.getD t false=true then { s with sl:=s.sl.set t ⟨0,-1⟩,pm:=s.pm.set t false } else s
def pN (spin:Int) (s:MS) (t:Nat) (a:Int):MS:=if (s.sl.getD t rP).looks+1<spin then { s with sl:=s.sl.set t ⟨(s.sl.getD t rP).looks+1,(s.sl.getD t rP).addr⟩ } else { s with sl:=s.sl.set t ⟨0,a⟩ }
def eF (s:MS) (t:Nat):MS:= { s with sl:=s.sl.set t ⟨0,(s.sl.getD t rP).addr⟩ }
def jP (s:MS) (t:Nat):MS:=if (s.sl.getD t rP).addr= -1 then s else { s with pm:=s.pm.set t true }
def kO (s:MS) (a:Int) (by_:Int):MS:=(List.range s.sl.length).foldl (fun s u=>if (s.sl.getD u rP).addr=a∧(s.sl.getD u rP).addr≠ -1∧(u:Int)≠by_ then jP s u else s) s
def pC (s:MS) (t:Nat):Bool:=(s.sl.getD t rP).addr != -1&&!s.pm.getD t false
def fD (s:MS) (t:Nat):Bool:=((s.th.getD t dE).state==1 || (s.th.getD t dE).state==3)&&iP s t
def fK (p:dU) (spin:Int) (s:MS) (t:Nat):MS:=
 let s1:=bN s t
 let r:=bR p s1.x t (fY s1 t)
 let s2:MS:=bP { s1 with x:=r.2 } t ⟨(s1.th.getD t dE).state,(s1.th.getD t dE).deadline,(s1.th.getD t dE).steps+1⟩
 if r.1.st=true then pN spin s2 t r.1.addr
 else
  let s3:=eF s2 t
  nM (if r.1.wr=true then kO s3 r.1.addr t else s3) t r.1.marks r.1.dn
def gL (p:dU) (s:MS) (t:Nat) (k st dl:Int):MS:=
 let s1:=bP (cM s k t) t ⟨st,dl,(s.th.getD t dE).steps⟩
 let r:=dH p s1.x t ((s1.x.cs.getD t Cr.zero).goto (if st=3 then p.un else p.lo)) (-1) false
 nM { s1 with x:=r.2 } t r.1.marks r.1.dn
def tM (s:MS):MS:=(List.range s.th.length).foldl (fun s u=>if pC s u=true∧fY s u=true then jP s u else s) { s with now:=s.now+1 }
def iD (tr:Bool) (s:MS) (kd t wt:Int):Int:=
 if kd<1∨5<kd then 8
 else if kd=2 then 0
 else if ¬ (0≤t∧t<s.th.length) then 4
 else if kd=4∧tr=false then 6
 else if kd=4∧(wt<0∨1073741824<wt) then 1
 else if (kd=3∨kd=4)∧(s.th.getD t.toNat dE).state≠0 then 2
 else if kd=5∧(s.th.getD t.toNat dE).state≠2 then 3
 else 0
def nO (p:dU) (spin:Int) (tr:Bool) (s:MS) (kd t wt:Int):Bool × MS:=
 if iD tr s kd t wt≠0 then (false,s)
 else if kd=1 then if fD s t.toNat=true then (true,fK p spin s t.toNat) else (false,s)
 else if kd=2 then (true,tM s)
 else if kd=3 then (true,gL p s t.toNat 1 1 (-1))
 else if kd=4 then (true,gL p s t.toNat 1 1 (s.now+wt))
 else (true,gL p s t.toNat 8 3 (-1))
section
variable {W W':World} {bw gs cap bp gp capp:Nat} {spin:Int} {sl:List Sl} {rest restp:List Value} {cs:List Nat} {pm pm':List Bool}
theorem dQ.ne (h:dQ W bw gs cap bp gp capp spin sl rest restp cs pm) {q ty:Nat} {c:Array Value} (hq:W.heap[q]?=some (.cells c ty (0,0))):q∉cs:=fun hm=>by
 obtain ⟨i,hi,e⟩:=List.mem_iff_getElem.1 hm
 obtain ⟨v,s,r,hc⟩:=h.chans i hi
 rw [e,hq] at hc
 cases hc
theorem dQ.ZZ (h:dQ W bw gs cap bp gp capp spin sl rest restp cs pm) {S:Nat→Prop} (hm:Mod S W W') (hS:∀ q,S q→q∈cs) (hp:rT W' bp gp capp restp cs pm'):dQ W' bw gs cap bp gp capp spin sl rest restp cs pm':=
 ⟨hm.bI h.bI (fun e=>h.ne h.bI (hS _ e)),hm.bI h.row (fun e=>h.ne h.row (hS _ e)),hp.pblk,hp.prow,h.nodup,hp.chans,h.len,hp.plen.trans h.len,h.few⟩
theorem getD_at {α:Type} {l:List α} {z:α} {i:Nat} (h:i<l.length):l.getD i z=l[i]:=by
 rw [List.getD_eq_getElem?_getD,List.getElem?_eq_getElem h,Option.getD_some]
end
theorem JP (bw gs cap bp gp capp:Nat) (spin:Int) (sl:List Sl) (rest restp:List Value) (cs:List Nat) (pm:List Bool) (t:Nat) (w:World) (h:dQ w bw gs cap bp gp capp spin sl rest restp cs pm) (ht:t<sl.length) (ha:sl[t].addr≠ -1) (hp:pm.getD t false=true):
  Calls Tryz.prog 64 #[.pointer (some ⟨bw,0,none⟩),.int .i64 (t:Int)] w fun e w'=>e= .returned (.bool true)∧Mod (fun q=>q=gs∨q∈cs) w w'∧dQ w' bw gs cap bp gp capp spin (sl.set t ⟨0,-1⟩) rest restp cs (pm.set t false):=by
 have H:=aA.mk h
 have HC:=aA.mk (show t<cs.length by rw [h.len];exact ht)
 have b0:=(aC h.bI 0).trans rfl
 have b1:=(aC h.bI 1).trans rfl
 have b2:=(aC h.bI 2).trans rfl
 have s0:w.cell? ⟨gs,t*2,none⟩=some (.int .i64 sl[t].looks):=(aC h.row (t*2+0)).trans (cE sl rest t 0 ht (by decide))
 have s1:w.cell? ⟨gs,t*2+1,none⟩=some (.int .i64 sl[t].addr):=(aC h.row (t*2+1)).trans (cE sl rest t 1 ht (by decide))
 have f0:=aG h.row (t*2)
 have f1:=aG h.row (t*2+1)
 have i0:(0:Int)≤(t:Int):=by omega
 have i1:(t:Int)<(sl.length:Int):=by omega
 have i2:(sl.length:Int)≤64:=by have:=h.few;omega
 have n1:bw≠gs:=aK h.bI h.row (by decide)
 clear h
 have e0:(sl[t].addr== -1)=false:=beq_eq_false_iff_ne.mpr ha
 clear ha
 go_enter Tryz.func64,Tryz.ntmps64
 go_wp2_with (go_at_call 122;refine (JC bp gp capp restp cs pm t w H.out.pm HC.out hp).mono ?_;rintro e w9 ⟨rfl,hm,hP⟩;have H1:=aA.mk (H.out.ZZ hm (fun q hq=>by rw [hq];exact List.getElem_mem HC.out) hP);have HM:=aA.mk hm;clear hm hP b0 b1 b2 s0 s1 f0 f1;have h1:=H1.out;have c0:=(aC h1.bI 0).trans rfl;have c1:=(aC h1.bI 1).trans rfl;have d0:w9.cell? ⟨gs,t*2,none⟩=some (.int .i64 sl[t].looks):=(aC h1.row (t*2+0)).trans (cE sl rest t 0 ht (by decide));have d1:w9.cell? ⟨gs,t*2+1,none⟩=some (.int .i64 sl[t].addr):=(aC h1.row (t*2+1)).trans (cE sl rest t 1 ht (by decide));have f0:=aG h1.row (t*2);have f1:=aG h1.row (t*2+1);clear h1)
 have K:=(H1.out.set t 0 (.int .i64 0) ⟨0,sl[t].addr⟩ ht (by decide) rfl).set t 1 (.int .i64 (-1)) ⟨0,-1⟩ (by simpa using ht) (by decide) (by rw [List.getElem_set_self];rfl)
 rw [List.set_set] at K
 have M:=(HM.out.mono (T:=fun q=>q=gs∨q∈cs) (fun q _ hq=> .inr (by rw [hq];exact List.getElem_mem HC.out))).trans (T:=fun q=>q=gs) (((Mod.refl (fun q=>q=gs) w9).setCell (p:=⟨gs,t*2,none⟩) rfl (.int .i64 0)).setCell (p:=⟨gs,t*2+1,none⟩) rfl (.int .i64 (-1))) (fun q _ hq=> .inl hq)
 go_ret
 refine ⟨rfl,?_,K⟩
 exact M
theorem MZ (bw gs cap bp gp capp:Nat) (spin:Int) (sl:List Sl) (rest restp:List Value) (cs:List Nat) (pm:List Bool) (t:Nat) (w:World) (h:dQ w bw gs cap bp gp capp spin sl rest restp cs pm) (ht:t<sl.length) (ha:sl[t].addr≠ -1) (hp:pm.getD t false=false):
  Calls Tryz.prog 64 #[.pointer (some ⟨bw,0,none⟩),.int .i64 (t:Int)] w fun e w'=>e= .returned (.bool false)∧w=w':=by
 have H:=aA.mk h
 have HC:=aA.mk (show t<cs.length by rw [h.len];exact ht)
 have b0:=(aC h.bI 0).trans rfl
 have b1:=(aC h.bI 1).trans rfl
 have b2:=(aC h.bI 2).trans rfl
 have s0:w.cell? ⟨gs,t*2,none⟩=some (.int .i64 sl[t].looks):=(aC h.row (t*2+0)).trans (cE sl rest t 0 ht (by decide))
 have s1:w.cell? ⟨gs,t*2+1,none⟩=some (.int .i64 sl[t].addr):=(aC h.row (t*2+1)).trans (cE sl rest t 1 ht (by decide))
 have f0:=aG h.row (t*2)
 have f1:=aG h.row (t*2+1)
 have i0:(0:Int)≤(t:Int):=by omega
 have i1:(t:Int)<(sl.length:Int):=by omega
 have i2:(sl.length:Int)≤64:=by have:=h.few;omega
 have n1:bw≠gs:=aK h.bI h.row (by decide)
 clear h
 have e0:(sl[t].addr== -1)=false:=beq_eq_false_iff_ne.mpr ha
 clear ha
 go_enter Tryz.func64,Tryz.ntmps64
 go_wp2_with (go_at_call 122;refine (MO bp gp capp restp cs pm t w H.out.pm HC.out hp).mono ?_;rintro e w9 ⟨rfl,rfl⟩)
 go_ret
 exact ⟨rfl,rfl⟩
theorem QC (bw gs cap bp gp capp:Nat) (spin:Int) (sl:List Sl) (rest restp:List Value) (cs:List Nat) (pm:List Bool) (t:Nat) (w:World) (h:dQ w bw gs cap bp gp capp spin sl rest restp cs pm) (ht:t<sl.length) (ha:sl[t].addr≠ -1) (hp:pm.getD t false=false):
  Calls Tryz.prog 72 #[.pointer (some ⟨bw,0,none⟩),.int .i64 (t:Int)] w fun e w'=>e= .returned (.bool true)∧Mod (fun q=>q=gs∨q∈cs) w w'∧dQ w' bw gs cap bp gp capp spin sl rest restp cs (pm.set t true):=by
 have H:=aA.mk h
 have HC:=aA.mk (show t<cs.length by rw [h.len];exact ht)
 have b0:=(aC h.bI 0).trans rfl
 have b1:=(aC h.bI 1).trans rfl
 have b2:=(aC h.bI 2).trans rfl
 have s0:w.cell? ⟨gs,t*2,none⟩=some (.int .i64 sl[t].looks):=(aC h.row (t*2+0)).trans (cE sl rest t 0 ht (by decide))
 have s1:w.cell? ⟨gs,t*2+1,none⟩=some (.int .i64 sl[t].addr):=(aC h.row (t*2+1)).trans (cE sl rest t 1 ht (by decide))
 have f0:=aG h.row (t*2)
 have f1:=aG h.row (t*2+1)
 have i0:(0:Int)≤(t:Int):=by omega
 have i1:(t:Int)<(sl.length:Int):=by omega
 have i2:(sl.length:Int)≤64:=by have:=h.few;omega
 have n1:bw≠gs:=aK h.bI h.row (by decide)
 clear h
 have e0:(sl[t].addr== -1)=false:=beq_eq_false_iff_ne.mpr ha
 clear ha
 go_enter Tryz.func72,Tryz.ntmps72
 go_wp2_with (go_at_call 130;refine (JR bp gp capp restp cs pm t w H.out.pm HC.out hp).mono ?_;rintro e w9 ⟨rfl,hm,hP⟩;have H1:=aA.mk (H.out.ZZ hm (fun q hq=>by rw [hq];exact List.getElem_mem HC.out) hP);have HM:=aA.mk hm;clear hm hP b0 b1 b2 s0 s1 f0 f1)
 go_ret
 exact ⟨rfl,HM.out.mono (fun q _ hq=> .inr (by rw [hq];exact List.getElem_mem HC.out)),H1.out⟩
theorem Y7 (bw gs cap bp gp capp:Nat) (spin:Int) (sl:List Sl) (rest restp:List Value) (cs:List Nat) (pm:List Bool) (t:Nat) (w:World) (h:dQ w bw gs cap bp gp capp spin sl rest restp cs pm) (ht:t<sl.length) (ha:sl[t].addr≠ -1) (hp:pm.getD t false=true):
  Calls Tryz.prog 72 #[.pointer (some ⟨bw,0,none⟩),.int .i64 (t:Int)] w fun e w'=>e= .returned (.bool false)∧w=w':=by
 have H:=aA.mk h
 have HC:=aA.mk (show t<cs.length by rw [h.len];exact ht)
 have b0:=(aC h.bI 0).trans rfl
 have b1:=(aC h.bI 1).trans rfl
 have b2:=(aC h.bI 2).trans rfl
 have s0:w.cell? ⟨gs,t*2,none⟩=some (.int .i64 sl[t].looks):=(aC h.row (t*2+0)).trans (cE sl rest t 0 ht (by decide))
 have s1:w.cell? ⟨gs,t*2+1,none⟩=some (.int .i64 sl[t].addr):=(aC h.row (t*2+1)).trans (cE sl rest t 1 ht (by decide))
 have f0:=aG h.row (t*2)
 have f1:=aG h.row (t*2+1)
 have i0:(0:Int)≤(t:Int):=by omega
 have i1:(t:Int)<(sl.length:Int):=by omega
 have i2:(sl.length:Int)≤64:=by have:=h.few;omega
 have n1:bw≠gs:=aK h.bI h.row (by decide)
 clear h
 have e0:(sl[t].addr== -1)=false:=beq_eq_false_iff_ne.mpr ha
 clear ha
 go_enter Tryz.func72,Tryz.ntmps72
 go_wp2_with (go_at_call 130;refine (N5 bp gp capp restp cs pm t w H.out.pm HC.out hp).mono ?_;rintro e w9 ⟨rfl,rfl⟩)
 go_ret
 exact ⟨rfl,rfl⟩
theorem OD (bw gs cap bp gp capp:Nat) (spin:Int) (sl:List Sl) (rest restp:List Value) (cs:List Nat) (pm:List Bool) (t:Nat) (w:World) (h:dQ w bw gs cap bp gp capp spin sl rest restp cs pm) (ht:t<sl.length) (ha:sl[t].addr≠ -1) (hp:pm.getD t false=true):
  Calls Tryz.prog 71 #[.pointer (some ⟨bw,0,none⟩),.int .i64 (t:Int)] w fun e w'=>e= .returned (.tuple #[.int .i64 0,.bool false])∧w=w':=by
 have H:=aA.mk h
 have HC:=aA.mk (show t<cs.length by rw [h.len];exact ht)
 have b0:=(aC h.bI 0).trans rfl
 have b1:=(aC h.bI 1).trans rfl
 have b2:=(aC h.bI 2).trans rfl
 have s0:w.cell? ⟨gs,t*2,none⟩=some (.int .i64 sl[t].looks):=(aC h.row (t*2+0)).trans (cE sl rest t 0 ht (by decide))
 have s1:w.cell? ⟨gs,t*2+1,none⟩=some (.int .i64 sl[t].addr):=(aC h.row (t*2+1)).trans (cE sl rest t 1 ht (by decide))
 have f0:=aG h.row (t*2)
 have f1:=aG h.row (t*2+1)
 have i0:(0:Int)≤(t:Int):=by omega
 have i1:(t:Int)<(sl.length:Int):=by omega
 have i2:(sl.length:Int)≤64:=by have:=h.few;omega
 have n1:bw≠gs:=aK h.bI h.row (by decide)
 clear h
 have e0:(sl[t].addr== -1)=false:=beq_eq_false_iff_ne.mpr ha
 clear ha
 have P:=aA.mk (show Calls Tryz.prog 129 #[.pointer (some ⟨bp,0,none⟩),.int .i64 (t:Int)] w fun e w'=>e= .returned (.bool true)∧w=w' from by rw [← hp];exact tN bp gp capp restp cs pm t w H.out.pm HC.out)
 go_enter Tryz.func71,Tryz.ntmps71
 go_wp2_with (go_at_call 129;refine P.out.mono ?_;rintro e w9 ⟨rfl,rfl⟩)
 go_ret2
 exact ⟨rfl,rfl⟩
theorem J6 (bw gs cap bp gp capp:Nat) (spin:Int) (sl:List Sl) (rest restp:List Value) (cs:List Nat) (pm:List Bool) (t:Nat) (w:World) (h:dQ w bw gs cap bp gp capp spin sl rest restp cs pm) (ht:t<sl.length) (ha:sl[t].addr≠ -1) (hp:pm.getD t false=false):
  Calls Tryz.prog 71 #[.pointer (some ⟨bw,0,none⟩),.int .i64 (t:Int)] w fun e w'=>e= .returned (.tuple #[.int .i64 sl[t].addr,.bool true])∧w=w':=by
 have H:=aA.mk h
 have HC:=aA.mk (show t<cs.length by rw [h.len];exact ht)
 have b0:=(aC h.bI 0).trans rfl
 have b1:=(aC h.bI 1).trans rfl
 have b2:=(aC h.bI 2).trans rfl
 have s0:w.cell? ⟨gs,t*2,none⟩=some (.int .i64 sl[t].looks):=(aC h.row (t*2+0)).trans (cE sl rest t 0 ht (by decide))
 have s1:w.cell? ⟨gs,t*2+1,none⟩=some (.int .i64 sl[t].addr):=(aC h.row (t*2+1)).trans (cE sl rest t 1 ht (by decide))
 have f0:=aG h.row (t*2)
 have f1:=aG h.row (t*2+1)
 have i0:(0:Int)≤(t:Int):=by omega
 have i1:(t:Int)<(sl.length:Int):=by omega
 have i2:(sl.length:Int)≤64:=by have:=h.few;omega
 have n1:bw≠gs:=aK h.bI h.row (by decide)
 clear h
 have e0:(sl[t].addr== -1)=false:=beq_eq_false_iff_ne.mpr ha
 clear ha
 have P:=aA.mk (show Calls Tryz.prog 129 #[.pointer (some ⟨bp,0,none⟩),.int .i64 (t:Int)] w fun e w'=>e= .returned (.bool false)∧w=w' from by rw [← hp];exact tN bp gp capp restp cs pm t w H.out.pm HC.out)
 go_enter Tryz.func71,Tryz.ntmps71
 go_wp2_with (go_at_call 129;refine P.out.mono ?_;rintro e w9 ⟨rfl,rfl⟩)
 go_ret2
 exact ⟨rfl,rfl⟩
theorem KF (bw gs cap bp gp capp:Nat) (spin:Int) (s:MS) (rest restp:List Value) (cs:List Nat) (t:Nat) (addr:Int) (w:World) (h:dQ w bw gs cap bp gp capp spin s.sl rest restp cs s.pm) (ht:t<s.sl.length) (hl:0≤(s.sl.getD t rP).looks∧(s.sl.getD t rP).looks≤1000):
  Calls Tryz.prog 67 #[.pointer (some ⟨bw,0,none⟩),.int .i64 (t:Int),.int .i64 addr] w fun e w'=>(∃ v,e= .returned v)∧Mod (fun q=>q=gs∨q∈cs) w w'∧dQ w' bw gs cap bp gp capp spin (pN spin s t addr).sl rest restp cs (pN spin s t addr).pm:=by
 unfold pN
 rw [getD_at ht] at hl ⊢
 by_cases hk:s.sl[t].looks+1<spin
 ·rw [if_pos hk]
  exact (XV bw gs cap bp gp capp spin s.sl rest restp cs s.pm t addr w h ht hl hk).mono fun e w' hh=>⟨⟨_,hh.1⟩,hh.2.1.mono (fun q _ hq=> .inl hq),hh.2.2⟩
 ·rw [if_neg hk]
  exact (PW bw gs cap bp gp capp spin s.sl rest restp cs s.pm t addr w h ht hl hk).mono fun e w' hh=>⟨⟨_,hh.1⟩,hh.2.1.mono (fun q _ hq=> .inl hq),hh.2.2⟩
theorem BU (bw gs cap bp gp capp:Nat) (spin:Int) (s:MS) (rest restp:List Value) (cs:List Nat) (t:Nat) (w:World) (h:dQ w bw gs cap bp gp capp spin s.sl rest restp cs s.pm) (ht:t<s.sl.length):
  Calls Tryz.prog 64 #[.pointer (some ⟨bw,0,none⟩),.int .i64 (t:Int)] w fun e w'=>e= .returned (.bool (iP s t))∧Mod (fun q=>q=gs∨q∈cs) w w'∧dQ w' bw gs cap bp gp capp spin (bN s t).sl rest restp cs (bN s t).pm:=by
 unfold bN iP
 rw [getD_at ht]
 by_cases ha:s.sl[t].addr= -1
 ·rw [if_pos ha,show (s.sl[t].addr== -1)=true from beq_iff_eq.mpr ha]
  exact (DG bw gs cap bp gp capp spin s.sl rest restp cs s.pm t w h ht ha).mono fun e w' hh=>by
   obtain ⟨rfl,rfl⟩:=hh
   exact ⟨rfl,Mod.refl _ _,h⟩
 ·rw [if_neg ha,show (s.sl[t].addr== -1)=false from beq_eq_false_iff_ne.mpr ha,Bool.false_or]
  cases hp:s.pm.getD t false with
  |true=>
   rw [if_pos rfl]
   exact JP bw gs cap bp gp capp spin s.sl rest restp cs s.pm t w h ht ha hp
  |false=>
   rw [if_neg (by decide)]
   exact (MZ bw gs cap bp gp capp spin s.sl rest restp cs s.pm t w h ht ha hp).mono fun e w' hh=>by
    obtain ⟨rfl,rfl⟩:=hh
    exact ⟨rfl,Mod.refl _ _,h⟩
theorem VP {l:List Bool} {t:Nat} (h:l.getD t false=true):l.set t true=l:=by
 refine List.ext_getElem? fun i=>?_
 rw [List.getElem?_set]
 split
 ·rename_i e
  subst e
  rw [List.getD_eq_getElem?_getD] at h
  split
  ·rename_i hl
   rw [List.getElem?_eq_getElem hl,Option.getD_some] at h
   rw [List.getElem?_eq_getElem hl,h]
  ·rename_i hl
   rw [List.getElem?_eq_none (by omega)]
 ·rfl
theorem vM (bw gs cap bp gp capp:Nat) (spin:Int) (s:MS) (rest restp:List Value) (cs:List Nat) (t:Nat) (w:World) (h:dQ w bw gs cap bp gp capp spin s.sl rest restp cs s.pm) (ht:t<s.sl.length):
  Calls Tryz.prog 72 #[.pointer (some ⟨bw,0,none⟩),.int .i64 (t:Int)] w fun e w'=>(∃ b,e= .returned (.bool b))∧Mod (fun q=>q=gs∨q∈cs) w w'∧dQ w' bw gs cap bp gp capp spin (jP s t).sl rest restp cs (jP s t).pm:=by
 unfold jP
 rw [getD_at ht]
 by_cases ha:s.sl[t].addr= -1
 ·rw [if_pos ha]
  exact (KE bw gs cap bp gp capp spin s.sl rest restp cs s.pm t w h ht ha).mono fun e w' hh=>by
   obtain ⟨rfl,rfl⟩:=hh
   exact ⟨⟨_,rfl⟩,Mod.refl _ _,h⟩
 ·rw [if_neg ha]
  cases hp:s.pm.getD t false with
  |false=>exact (QC bw gs cap bp gp capp spin s.sl rest restp cs s.pm t w h ht ha hp).mono fun e w' hh=>⟨⟨_,hh.1⟩,hh.2⟩
  |true=>
   exact (Y7 bw gs cap bp gp capp spin s.sl rest restp cs s.pm t w h ht ha hp).mono fun e w' hh=>by
    obtain ⟨rfl,rfl⟩:=hh
    exact ⟨⟨_,rfl⟩,Mod.refl _ _,by show dQ w bw gs cap bp gp capp spin s.sl rest restp cs (s.pm.set t true);rw [VP hp];exact h⟩
theorem CX (bw gs cap bp gp capp:Nat) (spin:Int) (s:MS) (rest restp:List Value) (cs:List Nat) (t:Nat) (w:World) (h:dQ w bw gs cap bp gp capp spin s.sl rest restp cs s.pm) (ht:t<s.sl.length):
  Calls Tryz.prog 71 #[.pointer (some ⟨bw,0,none⟩),.int .i64 (t:Int)] w fun e w'=>(∃ a:Int,e= .returned (.tuple #[.int .i64 a,.bool (pC s t)]))∧w=w':=by
 unfold pC
 rw [getD_at ht]
 by_cases ha:s.sl[t].addr= -1
 ·rw [show (s.sl[t].addr != -1)=false from by simp [ha]]
  exact (D2 bw gs cap bp gp capp spin s.sl rest restp cs s.pm t w h ht ha).mono fun e w' hh=>⟨⟨_,hh.1⟩,hh.2⟩
 ·rw [show (s.sl[t].addr != -1)=true from by simp [ha]]
  cases hp:s.pm.getD t false with
  |true=>exact (OD bw gs cap bp gp capp spin s.sl rest restp cs s.pm t w h ht ha hp).mono fun e w' hh=>⟨⟨_,hh.1⟩,hh.2⟩
  |false=>exact (J6 bw gs cap bp gp capp spin s.sl rest restp cs s.pm t w h ht ha hp).mono fun e w' hh=>⟨⟨_,hh.1⟩,hh.2⟩
theorem Mod.grown {W W':World} {o:Option Nat} (h:W.grownBy W' o):Mod (fun q=>o=some q) W W':=
 ⟨h.os,h.tape,h.output,h.size,fun i hi hn=>h.block i hi (fun e=>hn e.symm)⟩
theorem dQ.away {W W':World} {bw gs cap bp gp capp:Nat} {spin:Int} {sl:List Sl} {rest restp:List Value} {cs:List Nat} {pm:List Bool} (h:dQ W bw gs cap bp gp capp spin sl rest restp cs pm) {S:Nat→Prop} (hm:Mod S W W') (hS:∀ q,S q→∃ c t,W.heap[q]?=some (.cells c t (0,0))∧t≠123∧t≠125∧t≠195∧t≠196):dQ W' bw gs cap bp gp capp spin sl rest restp cs pm:=by
 have fU:∀ {g ty:Nat} {c:Array Value},W.heap[g]?=some (.cells c ty (0,0))→(ty=123∨ty=125∨ty=195∨ty=196)→W'.heap[g]?=some (.cells c ty (0,0)):=fun {g ty c} hg ht=>hm.bI hg (fun hs=>by
  obtain ⟨c',t',h0,h1⟩:=hS _ hs
  rw [hg] at h0
  injection h0 with h0
  injection h0 with _ h0
  subst h0
  rcases ht with e|e|e|e
  ·exact h1.1 e
  ·exact h1.2.1 e
  ·exact h1.2.2.1 e
  ·exact h1.2.2.2 e)
 refine ⟨fU h.bI (.inl rfl),fU h.row (.inr (.inl rfl)),fU h.pblk (.inr (.inr (.inl rfl))),fU h.prow (.inr (.inr (.inr rfl))),h.nodup,fun i hi=>?_,h.len,h.plen,h.few⟩
 obtain ⟨v,s,r,hc⟩:=h.chans i hi
 refine ⟨v,s,r,(hm.block _ (Array.getElem?_eq_some_iff.1 hc).1 (fun hs=>?_)).trans hc⟩
 obtain ⟨c',t',h0,h1⟩:=hS _ hs
 rw [hc] at h0
 cases h0
theorem Z9 {α:Type} {d:Kd α} {e B:Nat} {W W1:World} {v:Value} {ys:List α} {S:Nat→Prop} (h:Kd.R d e W B (fun _=>True) v ys) (hm:Mod S W W1) (hS:∀ q,S q→∀ c t,W.heap[q]?=some (.cells c t (0,0))→t∉e :: d.E):Kd.R d e W1 B (fun _=>True) v ys:=
 Kd.fB (Kd.eD (Kd.eW h) (fun k hk hlt=>hm.block k hlt (fun hs=>by
  obtain ⟨_,_,_,q,hq,cs,hh⟩:=hk
  exact hS k hs cs q hh hq))) (fun _ hk=>hk.1)
theorem dQ.typed {W:World} {bw gs cap bp gp capp:Nat} {spin:Int} {sl:List Sl} {rest restp:List Value} {cs:List Nat} {pm:List Bool} (h:dQ W bw gs cap bp gp capp spin sl rest restp cs pm) {q:Nat} (hq:q=gs∨q∈cs) {c:Array Value} {t:Nat} (hc:W.heap[q]?=some (.cells c t (0,0))):t=125:=by
 rcases hq with rfl|hq
 ·have:=h.row
  rw [hc] at this
  injection this with this
  injection this with _ this
 ·exact absurd hq (h.ne hc)
theorem JY {α:Type} {d:Kd α} {e B:Nat} {W:World} {v:Value} {ys:List α} (h:Kd.R d e W B (fun _=>True) v ys) {q:Nat} (hq:v.ownBlock=some q):(∃ c,W.heap[q]?=some (.cells c e (0,0)))∧B≤q:=by
 have hb:=(Kd.eW h).1 q hq
 obtain ⟨_,hB,_⟩:=hb
 obtain ⟨h0,inner,ho,hr⟩:=h
 exact ⟨BG ho q hq,hB⟩
def eL (s:MS) (a by_:Int) (k:Nat):MS:=(List.range k).foldl (fun s u=>if (s.sl.getD u rP).addr=a∧(s.sl.getD u rP).addr≠ -1∧(u:Int)≠by_ then jP s u else s) s
theorem GA (s:MS) (a by_:Int):eL s a by_ s.sl.length=kO s a by_:=rfl
theorem xX (s:MS) (a by_:Int) (k:Nat):(eL s a by_ k).sl=s.sl:=by
 unfold eL
 induction k with
 |zero=>rfl
 |succ k ih=>
  rw [List.range_succ,List.foldl_append,List.foldl_cons,List.foldl_nil]
  split
  ·unfold jP
   split
   ·exact ih
   ·exact ih
  ·exact ih
theorem BO (s:MS) (a by_:Int) (k:Nat):eL s a by_ (k+1)=if (s.sl.getD k rP).addr=a∧(s.sl.getD k rP).addr≠ -1∧(k:Int)≠by_ then jP (eL s a by_ k) k else eL s a by_ k:=by
 have h:=xX s a by_ k
 unfold eL at h ⊢
 rw [List.range_succ,List.foldl_append,List.foldl_cons,List.foldl_nil,h]
theorem GN (bw gs cap bp gp capp:Nat) (spin:Int) (s:MS) (rest restp:List Value) (cs:List Nat) (addr by_:Int) (w:World) (h:dQ w bw gs cap bp gp capp spin s.sl rest restp cs s.pm):
  Calls Tryz.prog 69 #[.pointer (some ⟨bw,0,none⟩),.int .i64 addr,.int .i64 by_] w fun e w'=>(∃ v,e= .returned v)∧Mod (fun q=>q=gs∨q∈cs) w w'∧dQ w' bw gs cap bp gp capp spin (kO s addr by_).sl rest restp cs (kO s addr by_).pm:=by
 have H:=aA.mk h
 have b1:=(aC h.bI 1).trans rfl
 have HN:=aA.mk h.few
 clear h
 go_enter Tryz.func69,Tryz.ntmps69
 go_wp2_with fail
 go_loopw [7,15] (fun v i wr=>∃ (k:Nat) (ys:List Int),k≤s.sl.length∧ys.length≤k∧i= .int .i64 k∧aA (Kd.R (Kd.int .i64) 3 wr w.heap.size (fun _=>True) v ys)∧aA (dQ wr bw gs cap bp gp capp spin (eL s addr by_ k).sl rest restp cs (eL s addr by_ k).pm)∧aA (Mod (fun q=>q=gs∨q∈cs) w wr)) (fun _ i _=>s.sl.length - (intOf i).toNat)
 case atStart=>exact ⟨0,[],Nat.zero_le _,Nat.le_refl _,rfl,⟨Kd.lA _ _ _ _ _⟩,H,⟨Mod.refl _ _⟩⟩
 case round=>
  clear b1
  obtain ⟨k,ys,hk,hys,rfl,HR,HP,HM⟩:=hrel
  by_cases hlt:k<s.sl.length
  ·have HK:=aA.mk (⟨hlt,hys⟩:k<s.sl.length∧ys.length≤k)
   have hsl:=xX s addr by_ k
   have hT:decide ((k:Int)<(s.sl.length:Int))=true:=decide_eq_true (by omega)
   have i1:(k:Int)<(s.sl.length:Int):=by omega
   have i2:(s.sl.length:Int)≤64:=by have:=HN.out;omega
   have hst:=BO s addr by_ k
   have hrow:=HP.out.row
   rw [hsl] at hrow
   have s0:wr.cell? ⟨gs,k*2,none⟩=some (.int .i64 s.sl[k].looks):=(aC hrow (k*2+0)).trans (cE s.sl rest k 0 hlt (by decide))
   have s1:wr.cell? ⟨gs,k*2+1,none⟩=some (.int .i64 s.sl[k].addr):=(aC hrow (k*2+1)).trans (cE s.sl rest k 1 hlt (by decide))
   rw [getD_at hlt] at hst
   generalize s.sl[k].addr=x at s1 hst
   generalize s.sl[k].looks=y at s0
   have HST:=aA.mk hst
   have HSL:=aA.mk hsl
   clear hst hsl hrow
   cases hA:(x==addr)
   ·have hst:eL s addr by_ (k+1)=eL s addr by_ k:=HST.out.trans (if_neg (fun hh=>by rw [hh.1] at hA;simp at hA))
    clear HST
    go_wp2_with fail
    have B9:=aA.mk (aD (Below.refl wr.heap.size wr) (.cells #[.int .i64 y,.int .i64 x] 125))
    go_roundw
    case rel=>exact ⟨k+1,ys,by omega,by omega,by go_num,⟨Kd.eD HR.out (fun q _ hq=>B9.out.block q hq)⟩,⟨by rw [hst];exact HP.out.below B9.out⟩,⟨HM.out.step B9.out⟩⟩
    case measure=>simp [intOf];omega

   ·cases hB:(x != -1)
    ·have hst:eL s addr by_ (k+1)=eL s addr by_ k:=HST.out.trans (if_neg (fun hh=>by have:=hh.2.1;simp [this] at hB))
     clear HST
     go_wp2_with fail
     have B9:=aA.mk (aD (Below.refl wr.heap.size wr) (.cells #[.int .i64 y,.int .i64 x] 125))
     go_roundw
     case rel=>exact ⟨k+1,ys,by omega,by omega,by go_num,⟨Kd.eD HR.out (fun q _ hq=>B9.out.block q hq)⟩,⟨by rw [hst];exact HP.out.below B9.out⟩,⟨HM.out.step B9.out⟩⟩
     case measure=>simp [intOf];omega

    ·cases hC:((k:Int) != by_)
     ·have hst:eL s addr by_ (k+1)=eL s addr by_ k:=HST.out.trans (if_neg (fun hh=>by have:=hh.2.2;simp [this] at hC))
      clear HST
      go_wp2_with fail
      have B9:=aA.mk (aD (Below.refl wr.heap.size wr) (.cells #[.int .i64 y,.int .i64 x] 125))
      go_roundw
      case rel=>exact ⟨k+1,ys,by omega,by omega,by go_num,⟨Kd.eD HR.out (fun q _ hq=>B9.out.block q hq)⟩,⟨by rw [hst];exact HP.out.below B9.out⟩,⟨HM.out.step B9.out⟩⟩
      case measure=>simp [intOf];omega

     ·have hst:eL s addr by_ (k+1)=jP (eL s addr by_ k) k:=HST.out.trans (if_pos ⟨by simpa using hA,by simpa using hB,by simpa using hC⟩)
      clear HST
      go_wp2_with fail
      have B9:=aA.mk (aD (Below.refl wr.heap.size wr) (.cells #[.int .i64 y,.int .i64 x] 125))
      go_at_call 72
      refine (vM bw gs cap bp gp capp spin (eL s addr by_ k) rest restp cs k _ (HP.out.below B9.out) (by rw [HSL.out];exact HK.out.1)).mono ?_
      rintro e w9 ⟨⟨bb,rfl⟩,hm,hP⟩
      have hB9:=HP.out.below B9.out
      have HR9:=aA.mk (Z9 (Kd.eD HR.out (fun q _ hq=>B9.out.block q hq)) hm (fun q hq c t hc=>by rw [hB9.typed hq hc];decide))
      have HP9:=aA.mk hP
      have HM9:=aA.mk ((HM.out.step B9.out).trans hm (fun q _ hq=>hq))
      clear hB9 hm hP HR HP HM s0 s1 B9
      cases bb
      ·go_wp2_with fail
       go_roundw
       case rel=>exact ⟨k+1,ys,by omega,by omega,by go_num,HR9,⟨by rw [hst];exact HP9.out⟩,HM9⟩
       case measure=>simp [intOf];omega
      ·go_wp2_with (((with_reducible refine dT (b:= .append) (xs:=#[.tmp 39,.tmp 41]) rfl ?_);at_builtin;refine Kd.kR (Kd.int .i64) (w0:=w9) (w.heap.size) rfl (.tmp 39) (.tmp 41) 32 3 (.int .i64 0) 8 rfl Tryz.underlying32 L7 rfl (by decide) (by omega) u7 ys (k:Int) [.int .i64 (k:Int)] (fun _=>True) (fun _=>False) rfl (by first|(go_simp;done)|(go_simp;rfl)) ?aP (fun _ hk=>hk.elim) (fun _ _=>trivial) ?aO ?aB ?aS ?aL ?_;(case aP=>exact rfl);(case aO=>exact (by (with_reducible repeat (first|apply Kd.cO|apply Kd.eX));exact HR9.out));(case aB=>exact Below.refl _ _);(case aS=>exact HM9.out.size);(case aL=>have:=HN.out;have:=HK.out;omega);intro v1 w8 ho hb hg hat;have hO:=fun q hq=>JY (q:=q) HR9.out hq;have HR7:=aA.mk ho;have HP7:=aA.mk (HP9.out.away (Mod.grown hg) (fun q hq=>by obtain ⟨⟨c,hc⟩,_⟩:=hO q hq;exact ⟨c,3,hc,by decide,by decide,by decide,by decide⟩));have HM7:=aA.mk (HM9.out.trans (Mod.grown hg) (fun q hl hq=>by have:=(hO q hq).2;exfalso;omega));clear ho hb hg hat hO HR9 HP9 HM9;obtain ⟨A1,cap1,hv1,_,_⟩:=Kd.bY HR7.out;generalize List.length _=n1 at hv1;subst hv1))
       go_wp2
       go_roundw
       case rel=>exact ⟨k+1,_,by omega,by simp;omega,by go_num,HR7,⟨by rw [hst];exact HP7.out⟩,HM7⟩
       case measure=>simp [intOf];omega
  ·have e:k=s.sl.length:=by omega
   subst e
   have hT:decide ((s.sl.length:Int)<(s.sl.length:Int))=false:=decide_eq_false (by omega)
   obtain ⟨A1,cap1,hv1,_,_⟩:=Kd.bY HR.out
   generalize List.length _=n1 at hv1
   subst hv1
   go_wp2
   go_ret
   exact ⟨⟨_,rfl⟩,HM.out,by rw [← GA];exact HP.out⟩
inductive Steps (p:dU) (t:Nat):XS→List Int→Int→Nat→XS→Prop
 |last {x x':XS} {ms:List Int} {d a:Int} {wr:Bool} :bR p x t false=(⟨ms,d,a,wr,false,0⟩,x')→0≤d→Steps p t x ms d 1 x'
 |more {x x' x2:XS} {ms ms':List Int} {d a:Int} {wr:Bool} {k:Nat} :bR p x t false=(⟨ms,-1,a,wr,false,0⟩,x')→Steps p t x' ms' d k x2→Steps p t x (ms++ms') d (k+1) x2
def kN (s:MS):Prop:=∀ u,(s.sl.getD u rP).addr= -1
theorem sA (t:Nat):∀ (ms:List Int) (s:MS),eJ s t ms= { s with seen:=s.seen++ms.map (fun k=>⟨mW k,(t:Int),s.now⟩) }
 | [],s=>by simp [eJ]
 |k :: ms,s=>by
  have:=sA t ms (cM s (mW k) t)
  unfold eJ at this ⊢
  rw [List.foldl_cons,this]
  simp [cM]
theorem N4 {s:MS} (h:kN s) (a b:Int):kO s a b=s:=by
 unfold kO
 generalize List.range s.sl.length=l
 induction l with
 |nil=>rfl
 |cons u l ih=>rw [List.foldl_cons,if_neg (fun hh=>hh.2.1 (h u)),ih]
theorem EY {s:MS} (h:kN s) (t:Nat):kN (eF s t):=by
 intro u
 unfold eF
 dsimp only
 rw [eG]
 split
 ·exact h t
 ·exact h u
theorem NX (p:dU) (spin:Int) (tr:Bool) (s:MS) (t:Nat) (ht:t<s.th.length) (h:(s.th.getD t dE).state≠1∧(s.th.getD t dE).state≠3):(nO p spin tr s 1 t 0).2=s:=by
 have e:fD s t=false:=by
  unfold fD
  rw [show ((s.th.getD t dE).state==1)=false from beq_eq_false_iff_ne.mpr h.1,show ((s.th.getD t dE).state==3)=false from beq_eq_false_iff_ne.mpr h.2]
  rfl
 unfold nO
 split
 ·rfl
 ·rw [if_pos rfl]
  rw [show ((t:Int)).toNat=t from by omega,e]
  rfl
theorem GO (p:dU) (spin:Int) (tr:Bool) (s:MS) (t:Nat) (ht:t<s.th.length) (h:(s.th.getD t dE).state=1∨(s.th.getD t dE).state=3) (hd:(s.th.getD t dE).deadline= -1) (hu:kN s):(nO p spin tr s 1 t 0).2=fK p spin s t∧fY s t=false:=by
 have e:fD s t=true:=by
  unfold fD iP
  rw [hu t]
  rcases h with h|h <;> rw [h] <;> rfl
 refine ⟨?_,?_⟩
 ·have hb:iD tr s 1 t 0=0:=by
   unfold iD
   rw [if_neg (by omega),if_neg (by decide),if_neg (fun hh=>hh ⟨by omega,by omega⟩)]
   simp
  unfold nO
  rw [hb,if_neg (by decide),if_pos rfl,show ((t:Int)).toNat=t from by omega,e]
  rfl
 ·unfold fY
  exact decide_eq_false (fun hh=>hh.2.1 hd)
theorem K6 (p:dU) (spin:Int) (s:MS) (t:Nat) (ht:t<s.th.length) (hu:kN s) {ms:List Int} {d a:Int} {wr:Bool} {e:Int} {x':XS} (hl:fY s t=false) (hx:bR p s.x t false=(⟨ms,d,a,wr,false,e⟩,x')):
  (fK p spin s t).x=x'∧(fK p spin s t).now=s.now∧kN (fK p spin s t)∧(fK p spin s t).th.length=s.th.length∧
  (fK p spin s t).seen=s.seen++ms.map (fun k=>⟨mW k,(t:Int),s.now⟩)++(if 0≤d then [⟨wC d,(t:Int),s.now⟩] else [])∧
  (∀ u,((fK p spin s t).th.getD u dE).state=if u=t∧0≤d then oE d else (s.th.getD u dE).state)∧(∀ u,((fK p spin s t).th.getD u dE).deadline=(s.th.getD u dE).deadline):=by
 have h1:bN s t=s:=by unfold bN;rw [if_pos (hu t)]
 have hs:fK p spin s t=nM (eF (bP { s with x:=x' } t ⟨(s.th.getD t dE).state,(s.th.getD t dE).deadline,(s.th.getD t dE).steps+1⟩) t) t ms d:=by
  unfold fK
  rw [h1]
  dsimp only
  rw [hl,hx]
  dsimp only
  rw [if_neg (by decide)]
  have hu2:kN (eF (bP { s with x:=x' } t ⟨(s.th.getD t dE).state,(s.th.getD t dE).deadline,(s.th.getD t dE).steps+1⟩) t):=EY (fun u=>hu u) t
  rw [N4 hu2]
  cases wr <;> rfl
 have hm:kN (eF (bP { s with x:=x' } t ⟨(s.th.getD t dE).state,(s.th.getD t dE).deadline,(s.th.getD t dE).steps+1⟩) t):=EY (fun u=>hu u) t
 rw [hs]
 unfold nM
 rw [sA]
 by_cases hd:0≤d
 ·rw [if_pos hd,if_pos hd]
  refine ⟨rfl,rfl,fun u=>hm u,by simp [bP,cM,eF],rfl,fun u=>?_,fun u=>?_⟩
  ·simp only [bP,cM,eF]
   rw [eG]
   by_cases h:u=t
   ·subst h;simp [ht,hd]
   ·rw [if_neg (fun hh=>h hh.1),if_neg (fun hh=>h hh.1),eG,if_neg (fun hh=>h hh.1)]
  ·simp only [bP,cM,eF]
   rw [eG]
   by_cases h:u=t
   ·subst h
    rw [if_pos ⟨rfl,by simpa using ht⟩,eG,if_pos ⟨rfl,ht⟩]
   ·rw [if_neg (fun hh=>h hh.1),eG,if_neg (fun hh=>h hh.1)]
 ·rw [if_neg hd,if_neg hd]
  refine ⟨rfl,rfl,fun u=>hm u,by simp [bP,eF],by simp [bP,eF],fun u=>?_,fun u=>?_⟩
  ·simp only [bP,eF]
   rw [eG]
   by_cases h:u=t
   ·subst h;simp [ht,hd]
   ·rw [if_neg (fun hh=>h hh.1),if_neg (fun hh=>h hh.1)]
  ·simp only [bP,eF]
   rw [eG]
   by_cases h:u=t
   ·subst h;simp [ht]
   ·rw [if_neg (fun hh=>h hh.1)]
def fJ (p:dU) (spin:Int) (tr:Bool) (t:Nat):Nat→MS→MS
 |0,s=>s
 |n+1,s=>fJ p spin tr t n (nO p spin tr s 1 t 0).2
theorem xI (p:dU) (spin:Int) (tr:Bool) (t:Nat):∀ (n:Nat) (s:MS),t<s.th.length→((s.th.getD t dE).state≠1∧(s.th.getD t dE).state≠3)→fJ p spin tr t n s=s
 |0,s,_,_=>rfl
 |n+1,s,ht,h=>by
  unfold fJ
  rw [NX p spin tr s t ht h]
  exact xI p spin tr t n s ht h
theorem sS (p:dU) (spin:Int) (tr:Bool) (t:Nat) {x:XS} {ms:List Int} {d:Int} {k:Nat} {x2:XS} (hS:Steps p t x ms d k x2):
  ∀ (n:Nat) (s:MS),k≤n→s.x=x→t<s.th.length→kN s→((s.th.getD t dE).state=1∨(s.th.getD t dE).state=3)→(s.th.getD t dE).deadline= -1→(d=1∨d=2)→
  (fJ p spin tr t n s).x=x2∧(fJ p spin tr t n s).now=s.now∧kN (fJ p spin tr t n s)∧(fJ p spin tr t n s).th.length=s.th.length∧
  (fJ p spin tr t n s).seen=s.seen++ms.map (fun k=>⟨mW k,(t:Int),s.now⟩)++ [⟨wC d,(t:Int),s.now⟩]∧
  (∀ u,((fJ p spin tr t n s).th.getD u dE).state=if u=t then oE d else (s.th.getD u dE).state):=by
 induction hS with
 |last hx hd=>
  intro n s hk hsx ht hu hst hdl hd2
  obtain ⟨n,rfl⟩:∃ m,n=m+1:=⟨n - 1,by omega⟩
  subst hsx
  obtain ⟨e1,e2⟩:=GO p spin tr s t ht hst hdl hu
  obtain ⟨h1,h2,h3,h4,h5,h6,h7⟩:=K6 p spin s t ht hu e2 hx
  unfold fJ
  rw [e1]
  have hend:(((fK p spin s t).th.getD t dE).state≠1∧((fK p spin s t).th.getD t dE).state≠3):=by
   rw [h6 t,if_pos ⟨rfl,hd⟩]
   rcases hd2 with rfl|rfl <;> decide
  rw [xI p spin tr t n _ (by omega) hend]
  refine ⟨h1,h2,h3,h4,by rw [h5,if_pos hd],fun u=>?_⟩
  rw [h6 u]
  simp [hd]
 | @more x x' x2 ms ms' d a wr k hx hr ih=>
  intro n s hk hsx ht hu hst hdl hd2
  obtain ⟨n,rfl⟩:∃ m,n=m+1:=⟨n - 1,by omega⟩
  subst hsx
  obtain ⟨e1,e2⟩:=GO p spin tr s t ht hst hdl hu
  obtain ⟨h1,h2,h3,h4,h5,h6,h7⟩:=K6 p spin s t ht hu e2 hx
  unfold fJ
  rw [e1]
  have hs':((fK p spin s t).th.getD t dE).state=(s.th.getD t dE).state:=by rw [h6 t,if_neg (fun hh=>by have:=hh.2;omega)]
  obtain ⟨g1,g2,g3,g4,g5,g6⟩:=ih n (fK p spin s t) (by omega) h1 (by omega) h3 (by rw [hs'];exact hst) (by rw [h7 t];exact hdl) hd2
  refine ⟨g1,g2.trans h2,g3,g4.trans h4,?_,fun u=>?_⟩
  ·rw [g5,h5,if_neg (by decide),h2]
   simp
  ·rw [g6 u]
   split
   ·rfl
   ·rw [h6 u,if_neg (fun hh=>by have:=hh.2;omega)]
structure Lone (p:dU) (t:Nat) (x x2:XS):Prop where
 go:∃ x0 x1 y0 k l,dH p x t ((x.cs.getD t Cr.zero).goto p.lo) (-1) false=(⟨[],-1,-1,false,false,0⟩,x0)∧Steps p t x0 [1,2] 1 k x1∧k≤6∧
  dH p x1 t ((x1.cs.getD t Cr.zero).goto p.un) (-1) false=(⟨[],-1,-1,false,false,0⟩,y0)∧Steps p t y0 [4] 2 l x2∧l≤4
theorem LN (p:dU) (spin:Int) (tr:Bool) (s:MS) (t:Nat) (ht:t<s.th.length) (hu:kN s) (un:Bool) (hs:(s.th.getD t dE).state=if un then 2 else 0) {x0:XS} (hx:dH p s.x t ((s.x.cs.getD t Cr.zero).goto (if un then p.un else p.lo)) (-1) false=(⟨[],-1,-1,false,false,0⟩,x0)):
  let s':=(nO p spin tr s (if un then 5 else 3) t 0).2
  s'.x=x0∧s'.now=s.now∧kN s'∧s'.th.length=s.th.length∧s'.seen=s.seen++ [⟨if un then 8 else 1,(t:Int),s.now⟩]∧(∀ u,(s'.th.getD u dE).state=if u=t then (if un then 3 else 1) else (s.th.getD u dE).state)∧(s'.th.getD t dE).deadline= -1:=by
 have e:(nO p spin tr s (if un then 5 else 3) t 0).2=bP (cM { s with x:=x0 } (if un then 8 else 1) t) t ⟨if un then 3 else 1,-1,(s.th.getD t dE).steps⟩:=by
  have hb:iD tr s (if un then 5 else 3) t 0=0:=by
   unfold iD
   rw [show ((t:Int)).toNat=t from by omega,hs]
   cases un
   ·rw [if_neg (by decide),if_neg (by decide),if_neg (fun hh=>hh ⟨by omega,by omega⟩),if_neg (fun hh=>absurd hh.1 (by decide)),if_neg (by decide),if_neg (by decide),if_neg (by decide)]
   ·rw [if_neg (by decide),if_neg (by decide),if_neg (fun hh=>hh ⟨by omega,by omega⟩),if_neg (fun hh=>absurd hh.1 (by decide)),if_neg (by decide),if_neg (by decide),if_neg (by decide)]
  unfold nO
  rw [hb,if_neg (by decide),show ((t:Int)).toNat=t from by omega]
  cases un
  ·rw [if_neg (by decide),if_neg (by decide),if_pos (by decide)]
   unfold gL
   dsimp only [bP,cM]
   rw [if_neg (by decide)]
   have hx':dH p s.x t ((s.x.cs.getD t Cr.zero).goto p.lo) (-1) false=(⟨[],-1,-1,false,false,0⟩,x0):=hx
   rw [hx']
   rfl
  ·rw [if_neg (by decide),if_neg (by decide),if_neg (by decide),if_neg (by decide)]
   unfold gL
   dsimp only [bP,cM]
   rw [if_pos rfl]
   have hx':dH p s.x t ((s.x.cs.getD t Cr.zero).goto p.un) (-1) false=(⟨[],-1,-1,false,false,0⟩,x0):=hx
   rw [hx']
   rfl
 intro s'
 have e':s'=_:=e
 rw [e']
 refine ⟨rfl,rfl,fun u=>hu u,by simp [bP,cM],rfl,fun u=>?_,?_⟩
 ·simp only [bP,cM]
  rw [eG]
  by_cases h:u=t
  ·subst h;simp [ht]
  ·rw [if_neg (fun hh=>h hh.1),if_neg h]
 ·simp only [bP,cM]
  rw [eG,if_pos ⟨rfl,ht⟩]
def seven (t:Int) (now:Int):List LP:= [⟨1,t,now⟩,⟨2,t,now⟩,⟨3,t,now⟩,⟨5,t,now⟩,⟨8,t,now⟩,⟨9,t,now⟩,⟨10,t,now⟩]
def kY (p:dU) (spin:Int) (tr:Bool) (s:MS) (t:Nat):MS:=fJ p spin tr t 4 (nO p spin tr (fJ p spin tr t 6 (nO p spin tr s 3 t 0).2) 5 t 0).2
theorem PH (p:dU) (spin:Int) (tr:Bool) (s:MS) (t:Nat) (ht:t<s.th.length) (hu:kN s) (hs:∀ u,(s.th.getD u dE).state=0) {x2:XS} (hL:Lone p t s.x x2):
  (kY p spin tr s t).x=x2∧(kY p spin tr s t).now=s.now∧kN (kY p spin tr s t)∧(kY p spin tr s t).th.length=s.th.length∧(kY p spin tr s t).seen=s.seen++seven t s.now∧∀ u,((kY p spin tr s t).th.getD u dE).state=0:=by
 obtain ⟨x0,x1,y0,k,l,h1,h2,h3,h4,h5,h6⟩:=hL.go
 obtain ⟨a1,a2,a3,a4,a5,a6,a7⟩:=LN p spin tr s t ht hu false (hs t) h1
 unfold kY
 generalize hq1:(nO p spin tr s 3 t 0).2=s1
 have hq1':(nO p spin tr s (if false=true then 5 else 3) t 0).2=s1:=hq1
 rw [hq1'] at a1 a2 a3 a4 a5 a6 a7
 obtain ⟨b1,b2,b3,b4,b5,b6⟩:=sS p spin tr t h2 6 s1 h3 a1 (by omega) a3 (.inl (by rw [a6 t,if_pos rfl];rfl)) a7 (.inl rfl)
 generalize fJ p spin tr t 6 s1=s2 at b1 b2 b3 b4 b5 b6 ⊢
 obtain ⟨c1,c2,c3,c4,c5,c6,c7⟩:=LN p spin tr s2 t (by omega) b3 true (by rw [b6 t,if_pos rfl];rfl) (by rw [b1];exact h4)
 generalize hq3:(nO p spin tr s2 5 t 0).2=s3
 have hq3':(nO p spin tr s2 (if true=true then 5 else 3) t 0).2=s3:=hq3
 rw [hq3'] at c1 c2 c3 c4 c5 c6 c7
 obtain ⟨d1,d2,d3,d4,d5,d6⟩:=sS p spin tr t h5 4 s3 h6 c1 (by omega) c3 (.inr (by rw [c6 t,if_pos rfl];rfl)) c7 (.inr rfl)
 refine ⟨d1,by rw [d2,c2,b2,a2],d3,by omega,?_,fun u=>?_⟩
 ·rw [d5,c5,c2,b5,b2,a5,a2]
  simp [seven,mW,wC]
 ·rw [d6 u]
  split
  ·rfl
  ·rename_i hn
   rw [c6 u,if_neg hn,b6 u,if_neg hn,a6 u,if_neg hn]
   exact hs u
structure eC (p:dU):Prop where
 r:∃ r,nK p.l r=true
 m:∀ i∈p.l,okM i
 g:vS p p.r7.length
 ins:∀ i∈p.l,okX i
theorem eC.end_ {p:dU} (h:eC p) {c:Cr} (hp:0≤c.pc∧c.pc<p.l.length) (t:Nat):(go p.l t 256 c []).2.2.1= -1→jI p.l (go p.l t 256 c []).1.pc:=by
 obtain ⟨r,hr⟩:=h.r
 have hb:=(Bool.and_eq_true_iff.1 hr).2
 have hlt:r.getD c.pc.toNat 0<256:=by
  rw [List.getD_eq_getElem?_getD]
  by_cases hi:c.pc.toNat<r.length
  ·rw [List.getElem?_eq_getElem hi]
   have:=List.all_eq_true.1 hb _ (List.getElem_mem hi)
   rw [Nat.blt_eq] at this
   exact Nat.lt_trans this (by decide)
  ·rw [List.getElem?_eq_none (by omega)];decide
 intro hd
 rcases (J5 hr (t:Int) 256 c [] hp (.inr hlt)).2 hd with h1|⟨i,hi,ho,hk⟩
 ·exact h1
 ·have:=(h.m i hi).2 ho
  omega
theorem eC.succ {p:dU} (h:eC p) {pc:Int} (ha:jI p.l pc):(0≤pc+1∧pc+1<p.l.length)∧((bJ p.l pc).op=21→(bJ p.l pc).to_<0∨0≤(bJ p.l pc).to_∧(bJ p.l pc).to_<p.l.length):=by
 obtain ⟨r,hr⟩:=h.r
 have hq:pc.toNat<p.l.length:=by have:=ha.1;omega
 have hs:=List.all_eq_true.1 (Bool.and_eq_true_iff.1 hr).1 _ (List.mem_range.2 hq)
 have hi:p.l[pc.toNat]?=some (bJ p.l pc):=by
  unfold bJ
  rw [List.getD_eq_getElem?_getD,List.getElem?_eq_getElem hq]
  rfl
 have hcq:((pc.toNat:Nat):Int)=pc:=by have:=ha.1;omega
 have hm:=ha.2
 unfold QY at hs
 rw [hi] at hs
 dsimp only at hs
 rw [hcq,if_neg (by omega),if_neg (by omega),if_neg (by omega)] at hs
 have fin:∀ x:Int,(decide (0≤x)&&decide (x<p.l.length)&&(decide (16≤(bJ p.l x).op) || decide (16≤(bJ p.l pc).op) || Nat.blt (r.getD x.toNat 0) (r.getD pc.toNat 0)))=true→0≤x∧x<p.l.length:=fun x hx=>by
  simp only [Bool.and_eq_true,decide_eq_true_eq] at hx
  exact hx.1
 split at hs
 ·have:=Bool.and_eq_true_iff.1 hs
  refine ⟨fin _ this.1,fun _=>?_⟩
  rcases Bool.or_eq_true_iff.1 this.2 with h1|h1
  ·exact .inl (of_decide_eq_true h1)
  ·exact .inr (fin _ h1)
 ·rename_i hne
  exact ⟨fin _ hs,fun e=>absurd e hne⟩
theorem eC.op {p:dU} (h:eC p) {pc:Int} (ha:jI p.l pc):16≤(bJ p.l pc).op∧(bJ p.l pc).op≤23:=by
 have:=(h.ins _ (iZ ha.1.1 ha.1.2)).ok.op
 have:=ha.2
 omega
theorem TW {p:dU} {s:XS} (h:eC p) {t:Nat} (ht:t<s.cs.length) (late:Bool) (ha:jI p.l (s.cs.getD t Cr.zero).pc):
  ((bR p s t late).1.dn= -1→jI p.l ((bR p s t late).2.cs.getD t Cr.zero).pc)∧(∀ u,u≠t→(bR p s t late).2.cs.getD u Cr.zero=s.cs.getD u Cr.zero)∧((bR p s t late).1.st=true→(bR p s t late).1.dn= -1):=by
 have hS:=h.succ ha
 have run:∀ (x:XS) (c:Cr) (a:Int) (wr:Bool),x.cs=s.cs→(0≤c.pc∧c.pc<p.l.length)→((dH p x t c a wr).1.dn= -1→jI p.l ((dH p x t c a wr).2.cs.getD t Cr.zero).pc)∧(∀ u,u≠t→(dH p x t c a wr).2.cs.getD u Cr.zero=s.cs.getD u Cr.zero)∧((dH p x t c a wr).1.st=true→(dH p x t c a wr).1.dn= -1):=fun x c a wr hx hp=>by
  refine ⟨fun hd=>?_,fun u hu=>?_,fun hs=>by cases hs⟩
  ·show jI p.l ((x.cs.set t _).getD t Cr.zero).pc
   rw [hx,cK _ _ _ _ _ ht,if_pos rfl]
   exact h.end_ hp t hd
  ·show (x.cs.set t _).getD u Cr.zero=_
   rw [hx,cK _ _ _ _ _ ht,if_neg hu]
 have same:∀ o:XO,o.dn= -1→(o.dn= -1→jI p.l (s.cs.getD t Cr.zero).pc)∧(∀ u,u≠t→s.cs.getD u Cr.zero=s.cs.getD u Cr.zero)∧(o.st=true→o.dn= -1):=fun o ho=>⟨fun _=>ha,fun _ _=>rfl,fun _=>ho⟩
 have setpc:∀ (c:Cr) (d v:Int),(c.set d v).pc=c.pc:=fun _ _ _=>rfl
 unfold bR
 dsimp only
 split
 ·exact same _ rfl
 split
 ·exact same _ rfl
 split
 ·split
  ·exact run _ _ _ _ rfl hS.1
  ·exact run _ _ _ _ rfl hS.1
 split
 ·split
  ·exact run _ _ _ _ rfl hS.1
  split
  ·exact same _ rfl
  ·exact run _ _ _ _ rfl hS.1
 split
 ·exact same _ rfl
 ·rename_i h1 h2 h3 h4 h5
  generalize hA:(rd (dM p.szs p.szs.length) (bJ p.l (s.cs.getD t Cr.zero).pc).a+hIdx (((s.cs.getD t Cr.zero).goto ((s.cs.getD t Cr.zero).pc+1)).get (bJ p.l (s.cs.getD t Cr.zero).pc).s).toNat).toNat=A
  generalize hI:bJ p.l (s.cs.getD t Cr.zero).pc=i at h3 h4 hS ⊢
  generalize s.cs.getD t Cr.zero=c at ha run hS hI ⊢
  have hac:(dS (c.goto (c.pc+1)) s.xs A i late).2.2.2=true∧(dS (c.goto (c.pc+1)) s.xs A i late).1.pc=c.pc∨(dS (c.goto (c.pc+1)) s.xs A i late).2.2.2=false∧0≤(dS (c.goto (c.pc+1)) s.xs A i late).1.pc∧(dS (c.goto (c.pc+1)) s.xs A i late).1.pc<p.l.length:=by
   have hop:=h.op ha
   rw [hI] at hop
   unfold dS
   split
   ·exact .inr ⟨rfl,hS.1⟩
   split
   ·exact .inr ⟨rfl,hS.1⟩
   split
   ·exact .inr ⟨rfl,hS.1⟩
   split
   ·split <;> exact .inr ⟨rfl,hS.1⟩
   split
   ·exact .inr ⟨rfl,hS.1⟩
   split
   ·exact .inr ⟨rfl,hS.1⟩
   split
   ·rename_i hl
    refine .inr ⟨rfl,?_⟩
    rcases hS.2 (by omega) with h6|h6
    ·omega
    ·exact h6
   ·refine .inl ⟨rfl,?_⟩
    show c.pc+1 - 1=c.pc
    omega
  split
  ·rename_i hst
   refine ⟨fun _=>?_,fun u hu=>?_,fun _=>rfl⟩
   ·show jI p.l ((s.cs.set t _).getD t Cr.zero).pc
    rw [cK _ _ _ _ _ ht,if_pos rfl]
    rcases hac with hac|hac
    ·rw [hac.2];exact ha
    ·rw [hac.1] at hst;cases hst
   ·show (s.cs.set t _).getD u Cr.zero=_
    rw [cK _ _ _ _ _ ht,if_neg hu]
  ·rename_i hst
   refine run _ _ _ _ rfl ?_
   rcases hac with hac|hac
   ·exact absurd hac.1 hst
   ·exact hac.2
structure lG (p:dU) (N:Nat) (s:MS):Prop where
 x:sP p s.x
 code:eC p
 took:s.x.took≤N
 nsl:s.sl.length=p.r7.length
 npm:s.pm.length=p.r7.length
 nth:s.th.length=p.r7.length
 looks:∀ e∈s.sl,0≤e.looks∧e.looks≤1000
 now:0≤s.now∧s.now≤N
 seen:s.seen.length≤300*N
 steps:∀ e∈s.th,0≤e.steps∧e.steps≤N
 at_:∀ t,t<s.th.length→((s.th.getD t dE).state=1∨(s.th.getD t dE).state=3)→jI p.l (s.x.cs.getD t Cr.zero).pc
section
variable {p:dU} {N:Nat} {s:MS}
theorem lG.succ (h:lG p N s):lG p (N+1) s:=
 ⟨h.x,h.code,by have:=h.took;omega,h.nsl,h.npm,h.nth,h.looks,⟨h.now.1,by have:=h.now.2;omega⟩,by have:=h.seen;omega,fun e he=>by have:=h.steps e he;omega,h.at_⟩
theorem lG.VJ (h:lG p N s) {pm:List Bool} (hl:pm.length=s.pm.length):lG p N { s with pm:=pm } :=
 ⟨h.x,h.code,h.took,h.nsl,hl.trans h.npm,h.nth,h.looks,h.now,h.seen,h.steps,h.at_⟩
theorem lG.K4 (h:lG p N s) (t:Nat) {e:Sl} (he:0≤e.looks∧e.looks≤1000):lG p N { s with sl:=s.sl.set t e } :=
 ⟨h.x,h.code,h.took,by rw [← h.nsl];exact List.length_set,h.npm,h.nth,mem_set h.looks he,h.now,h.seen,h.steps,h.at_⟩
theorem uI (f:MS→Nat→MS) (hf:∀ s u,∃ pm:List Bool,f s u= { s with pm:=pm } ∧pm.length=s.pm.length):∀ (l:List Nat) (s:MS),∃ pm:List Bool,l.foldl f s= { s with pm:=pm } ∧pm.length=s.pm.length
 | [],s=>⟨s.pm,rfl,rfl⟩
 |u :: l,s=>by
  obtain ⟨pm,e,hl⟩:=hf s u
  obtain ⟨pm2,e2,hl2⟩:=uI f hf l (f s u)
  refine ⟨pm2,?_,?_⟩
  ·rw [List.foldl_cons,e2,e]
  ·rw [hl2,e];exact hl
theorem vT (s:MS) (u:Nat):∃ pm:List Bool,jP s u= { s with pm:=pm } ∧pm.length=s.pm.length:=by
 unfold jP
 split
 ·exact ⟨s.pm,rfl,rfl⟩
 ·exact ⟨_,rfl,List.length_set⟩
theorem BC (s:MS) (a b:Int):∃ pm:List Bool,kO s a b= { s with pm:=pm } ∧pm.length=s.pm.length:=
 uI _ (fun s u=>by
  split
  ·exact vT s u
  ·exact ⟨s.pm,rfl,rfl⟩) _ _
theorem UX (s:MS):∃ pm:List Bool,tM s= { s with now:=s.now+1,pm:=pm } ∧pm.length=s.pm.length:=
 uI _ (fun s u=>by
  split
  ·exact vT s u
  ·exact ⟨s.pm,rfl,rfl⟩) _ _
theorem p7 (t:Nat) (ms:List Int) (s:MS):(eJ s t ms).x=s.x∧(eJ s t ms).sl=s.sl∧(eJ s t ms).pm=s.pm∧(eJ s t ms).th=s.th∧(eJ s t ms).now=s.now∧(eJ s t ms).seen.length=s.seen.length+ms.length:=by
 rw [sA];simp
theorem lG.came (h:lG p N s) {t:Nat} (ht:t<s.th.length) {x:XS} (hx:sP p x) (hk:x.took≤N+1) {th:H9} (hst:0≤th.steps∧th.steps≤N+1) {ms:List Int} {dn:Int} (hm:ms.length≤256) {sn:List LP} (hsn:sn.length≤s.seen.length+1) (hcs:∀ u,u≠t→x.cs.getD u Cr.zero=s.x.cs.getD u Cr.zero) (hd:dn= -1→jI p.l (x.cs.getD t Cr.zero).pc) (hdn: -1≤dn):
  lG p (N+1) (nM { s with x:=x,th:=s.th.set t th,seen:=sn } t ms dn):=by
 unfold nM
 have hM:=p7 t ms { s with x:=x,th:=s.th.set t th,seen:=sn }
 generalize eJ { s with x:=x,th:=s.th.set t th,seen:=sn } t ms=s1 at hM ⊢
 dsimp only at hM
 obtain ⟨e1,e2,e3,e4,e5,e6⟩:=hM
 have hS:=h.seen
 split
 ·rename_i hd0
  refine ⟨by show sP p s1.x;rw [e1];exact hx,h.code,by show s1.x.took≤_;rw [e1];exact hk,by show s1.sl.length=_;rw [e2];exact h.nsl,by show s1.pm.length=_;rw [e3];exact h.npm,by show (s1.th.set t _).length=_;rw [List.length_set,e4,List.length_set];exact h.nth,by show ∀ e∈s1.sl,_;rw [e2];exact h.looks,by show 0≤s1.now∧s1.now≤_;rw [e5];have:=h.now;omega,by show (s1.seen++ [_]).length≤_;rw [List.length_append,e6,List.length_singleton];omega,?_,?_⟩
  ·show ∀ e∈s1.th.set t ⟨oE dn,(s1.th.getD t dE).deadline,(s1.th.getD t dE).steps⟩,_
   rw [e4,cK _ _ _ _ _ ht,if_pos rfl]
   refine mem_set (mem_set (fun e he=>?_) hst) hst
   have:=h.steps e he
   omega
  ·intro u hu hs
   change u<(s1.th.set t _).length at hu
   rw [List.length_set,e4,List.length_set] at hu
   change ((s1.th.set t ⟨oE dn,(s1.th.getD t dE).deadline,(s1.th.getD t dE).steps⟩).getD u dE).state=1∨((s1.th.set t ⟨oE dn,(s1.th.getD t dE).deadline,(s1.th.getD t dE).steps⟩).getD u dE).state=3 at hs
   show jI p.l (s1.x.cs.getD u Cr.zero).pc
   rw [e4] at hs
   rw [e1]
   rw [cK _ _ _ _ _ (by rw [List.length_set];exact ht)] at hs
   by_cases hut:u=t
   ·rw [if_pos hut] at hs
    exfalso
    dsimp only at hs
    unfold oE at hs
    split at hs <;> omega
   ·rw [if_neg hut,cK _ _ _ _ _ ht,if_neg hut] at hs
    rw [hcs u hut]
    exact h.at_ u hu hs
 ·rename_i hd0
  refine ⟨by rw [e1];exact hx,h.code,by rw [e1];exact hk,by rw [e2];exact h.nsl,by rw [e3];exact h.npm,by rw [e4,List.length_set];exact h.nth,by rw [e2];exact h.looks,by rw [e5];have:=h.now;omega,by rw [e6];omega,?_,?_⟩
  ·rw [e4]
   refine mem_set (fun e he=>?_) hst
   have:=h.steps e he
   omega
  ·intro u hu hs
   rw [e4,List.length_set] at hu
   rw [e1]
   by_cases hut:u=t
   ·rw [hut];exact hd (by omega)
   ·rw [e4,cK _ _ _ _ _ ht,if_neg hut] at hs
    rw [hcs u hut]
    exact h.at_ u hu hs
theorem vP (h:lG p N s) (t:Nat):0≤(s.th.getD t dE).steps∧(s.th.getD t dE).steps≤N:=by
 by_cases ht:t<s.th.length
 ·exact h.steps _ (oF ht)
 ·rw [List.getD_eq_getElem?_getD,List.getElem?_eq_none (by omega)];exact ⟨by decide,by show (0:Int)≤N;omega⟩
theorem qA (h:lG p N s) (t:Nat):0≤(s.sl.getD t rP).looks∧(s.sl.getD t rP).looks≤1000:=by
 by_cases ht:t<s.sl.length
 ·exact h.looks _ (oF ht)
 ·rw [List.getD_eq_getElem?_getD,List.getElem?_eq_none (by omega)];exact ⟨by decide,by decide⟩
theorem lG.resume (h:lG p N s) (t:Nat):lG p N (bN s t)∧(bN s t).x=s.x∧(bN s t).th=s.th∧(bN s t).seen=s.seen∧(bN s t).now=s.now:=by
 unfold bN
 split
 ·exact ⟨h,rfl,rfl,rfl,rfl⟩
 split
 ·exact ⟨(h.K4 t (e:=⟨0,-1⟩) (by decide)).VJ (pm:=s.pm.set t false) (by rw [List.length_set]),rfl,rfl,rfl,rfl⟩
 ·exact ⟨h,rfl,rfl,rfl,rfl⟩
theorem lG.fK {spin:Int} (h:lG p N s) (sp:1≤spin∧spin≤1000) {t:Nat} (ht:t<s.th.length) (hst:(s.th.getD t dE).state=1∨(s.th.getD t dE).state=3):lG p (N+1) (fK p spin s t):=by
 unfold Tp.fK
 obtain ⟨h1,ex,eth,esn,enow⟩:=h.resume t
 dsimp only
 generalize bN s t=s1 at h1 ex eth esn enow ⊢
 generalize hl:fY s1 t=late
 have hcs:t<s1.x.cs.length:=by have:=h1.x.nc;have:=h.nth;omega
 have hat:jI p.l (s1.x.cs.getD t Cr.zero).pc:=by rw [ex];exact h.at_ t ht hst
 have hX:=h1.x.step hcs late
 have hT:=JG (p:=p) (s:=s1.x) late t
 have hM:=sV (p:=p) (s:=s1.x) h.code.m late t
 have hA:=TW h.code hcs late hat
 generalize bR p s1.x t late=r at hX hT hM hA ⊢
 obtain ⟨o,x⟩:=r
 dsimp only at hX hT hM hA ⊢
 have hk:=h1.took
 have hs:=vP h1 t
 have ht1:t<s1.th.length:=by rw [eth];exact ht
 split
 ·rename_i ho
  have key:lG p (N+1) (bP { s1 with x:=x } t ⟨(s1.th.getD t dE).state,(s1.th.getD t dE).deadline,(s1.th.getD t dE).steps+1⟩):=by
   have:=h1.came ht1 hX (by omega) (th:=⟨(s1.th.getD t dE).state,(s1.th.getD t dE).deadline,(s1.th.getD t dE).steps+1⟩) (by dsimp only;omega) (ms:= []) (dn:= -1) (by decide) (sn:=s1.seen) (by omega) hA.2.1 (fun _=>hA.1 (hA.2.2 ho)) (by decide)
   exact this
  have hL:=qA h1 t
  unfold pN
  split
  ·rename_i hlt
   exact key.K4 t (by change (s1.sl.getD t rP).looks+1<spin at hlt;show 0≤(s1.sl.getD t rP).looks+1∧(s1.sl.getD t rP).looks+1≤1000;omega)
  ·exact key.K4 t ⟨(by decide:(0:Int)≤0),(by decide:(0:Int)≤1000)⟩
 ·have h2:lG p N { s1 with sl:=s1.sl.set t ⟨0,(s1.sl.getD t rP).addr⟩ } :=h1.K4 t ⟨(by decide:(0:Int)≤0),(by decide:(0:Int)≤1000)⟩
  have hc:=fun (pm:List Bool) (hpm:pm.length=s1.pm.length)=>(h2.VJ (pm:=pm) hpm).came (t:=t) ht1 hX (by omega) (th:=⟨(s1.th.getD t dE).state,(s1.th.getD t dE).deadline,(s1.th.getD t dE).steps+1⟩) (by dsimp only;omega) (ms:=o.marks) (dn:=o.dn) hM.2.1 (sn:=s1.seen) (by dsimp only;omega) hA.2.1 hA.1 hM.2.2.1
  split
  ·obtain ⟨pm,e,hpm⟩:=BC (eF (bP { s1 with x:=x } t ⟨(s1.th.getD t dE).state,(s1.th.getD t dE).deadline,(s1.th.getD t dE).steps+1⟩) t) o.addr t
   rw [e]
   exact hc pm hpm
  ·exact hc s1.pm rfl
theorem lG.gL (h:lG p N s) {t:Nat} (ht:t<s.th.length) (k st dl:Int):lG p (N+1) (gL p s t k st dl):=by
 unfold Tp.gL
 dsimp only
 have hc:t<s.x.cs.length:=by have:=h.x.nc;have:=h.nth;omega
 have h64:t<64:=by have:=h.nth;have:=h.code.g.n64;omega
 have hpc:0≤(if st=3 then p.un else p.lo)∧(if st=3 then p.un else p.lo)<p.l.length:=by
  split
  ·exact ⟨h.code.g.un0,h.code.g.un1⟩
  ·exact ⟨h.code.g.lo0,h.code.g.lo1⟩
 have hx:=h.x.dH h64 (Cr.gU (h.x.core t) (if st=3 then p.un else p.lo)) (-1) false
 have hM:=go_marks h.code.m t 256 ((s.x.cs.getD t Cr.zero).goto (if st=3 then p.un else p.lo)) [] (by simp)
 have hE:=h.code.end_ (c:=(s.x.cs.getD t Cr.zero).goto (if st=3 then p.un else p.lo)) hpc t
 have hs:=vP h t
 refine h.came ht hx (by have:=h.took;show s.x.took≤_;omega) (th:=⟨st,dl,(s.th.getD t dE).steps⟩) (by dsimp only;omega) (Nat.le_trans hM.2.1 (by decide)) (sn:=s.seen++ [⟨k,(t:Int),s.now⟩]) (by simp) (fun u hu=>?_) (fun hd=>?_) hM.2.2.1
 ·show (s.x.cs.set t _).getD u Cr.zero=_
  rw [cK _ _ _ _ _ hc,if_neg hu]
 ·show jI p.l ((s.x.cs.set t _).getD t Cr.zero).pc
  rw [cK _ _ _ _ _ hc,if_pos rfl]
  exact hE hd
theorem lG.tM (h:lG p N s):lG p (N+1) (tM s):=by
 obtain ⟨pm,e,hl⟩:=UX s
 rw [e]
 have h1:=(h.VJ hl).succ
 exact ⟨h1.x,h1.code,h1.took,h1.nsl,h1.npm,h1.nth,h1.looks,⟨by have:=h.now;show 0≤s.now+1;omega,by have:=h.now;show s.now+1≤((N+1:Nat):Int);omega⟩,h1.seen,h1.steps,h1.at_⟩
theorem mS {tr:Bool} {kd t wt:Int} (h:iD tr s kd t wt=0) (h2:kd≠2):0≤t∧t<s.th.length:=by
 unfold iD at h
 split at h
 ·cases h
 try rw [if_neg h2] at h
 split at h
 ·cases h
 ·rename_i hn
  exact Decidable.not_not.1 hn
theorem lG.nO {spin:Int} {tr:Bool} {kd t wt:Int} (h:lG p N s) (sp:1≤spin∧spin≤1000):lG p (N+1) (nO p spin tr s kd t wt).2:=by
 unfold Tp.nO
 split
 ·exact h.succ
 rename_i hb
 have hb:iD tr s kd t wt=0:=Decidable.not_not.1 hb
 split
 ·rename_i h1
  have hT:=mS hb (by omega)
  split
  ·rename_i hp
   refine h.fK sp (by omega) ?_
   unfold fD at hp
   rw [Bool.and_eq_true,Bool.or_eq_true] at hp
   rcases hp.1 with h1|h1
   ·exact .inl (beq_iff_eq.1 h1)
   ·exact .inr (beq_iff_eq.1 h1)
  ·exact h.succ
 split
 ·exact h.tM
 have hT:=mS hb (by omega)
 split
 ·exact h.gL (by omega) _ _ _
 split
 ·exact h.gL (by omega) _ _ _
 ·exact h.gL (by omega) _ _ _
end
def cW:Obj→Nat
 | .cells _ t _=>t
 | .map _ _=>1000001
 | .chan .. =>1000002
 |_=>1000003
def xZ (W:World) (S:Nat→Prop) (T:List Nat):Prop:=∀ q o,S q→W.heap[q]?=some o→cW o∉T
section
variable {W W':World} {S:Nat→Prop} {T:List Nat}
theorem xZ.at (h:xZ W S T) (hm:Mod S W W') {g:Nat} {o:Obj} (hg:W.heap[g]?=some o) (ht:cW o∈T):W'.heap[g]?=some o:=hm.bI hg (fun hs=>h g o hs hg ht)
theorem xZ.R {α:Type} {d:Kd α} {e B:Nat} {v:Value} {ys:List α} (h:xZ W S T) (hm:Mod S W W') (hr:Kd.R d e W B (fun _=>True) v ys) (ht:∀ y,y∈e :: d.E→y∈T):Kd.R d e W' B (fun _=>True) v ys:=
 Z9 hr hm (fun q hq c t hc hin=>h q _ hq hc (ht t hin))
theorem xZ.one {g:Nat} {o:Obj} (hg:W.heap[g]?=some o) (ht:cW o∉T):xZ W (fun q=>q=g) T:=fun q o' hq ho=>by
 subst hq
 rw [hg] at ho
 cases ho
 exact ht
theorem xZ.sub {T':List Nat} (h:xZ W S T) (hT:∀ y,y∈T'→y∈T):xZ W S T':=fun q o hq ho hin=>h q o hq ho (hT _ hin)
end
theorem jQ.off {W W':World} {b:XB} {p:dU} {s:XS} {S:Nat→Prop} (h:jQ W b p s) (hm:Mod S W W') (hS:xZ W S [149,214,261,3,310,314,231,227,284,22,1000001,192]):jQ W' b p s:=by
 refine ⟨hS.at hm h.bI (by simp [cW]),hS.R hm h.code (by intro y hy;rcases List.mem_cons.1 hy with rfl|hy;simp;cases hy),⟨hS.at hm h.mem.bI (by simp [cW]),hS.R hm h.mem.sizes (by intro y hy;rcases List.mem_cons.1 hy with rfl|hy;simp;cases hy),hS.R hm h.mem.begins (by intro y hy;rcases List.mem_cons.1 hy with rfl|hy;simp;cases hy),hS.at hm h.mem.cblk (by simp [cW]),hS.at hm h.mem.crow (by simp [cW])⟩,
  ⟨hS.at hm h.pool.bI (by simp [cW]),hS.at hm h.pool.row (by simp [cW]),h.pool.rings.step (fun k c t hk ht=>hS.at hm hk (by rcases ht with rfl|rfl <;> simp [cW])),h.pool.out.bI ?_,h.pool.good,h.pool.few,h.pool.small⟩,hS.at hm h.cores (by simp [cW]),h.old⟩
 obtain ⟨D,⟨es,clock,h0,_⟩,_⟩:=h.pool.out
 exact (hS.at hm h0 (by simp [cW])).trans h0.symm
theorem jQ.kinds {W:World} {b:XB} {p:dU} {s:XS} (h:jQ W b p s) {q:Nat} {o:Obj} (hq:oJ b s q) (ho:W.heap[q]?=some o):cW o∈ [314,192,1000001,284,22]:=by
 rcases hq with rfl|rfl|rfl|⟨r,hr,rfl|rfl⟩
 ·rw [h.mem.crow] at ho;cases ho;simp [cW]
 ·rw [h.cores] at ho;cases ho;simp [cW]
 ·obtain ⟨D,⟨es,clock,h0,_⟩,_⟩:=h.pool.out
  rw [h0] at ho;cases ho;simp [cW]
 ·rw [(h.pool.rings.at_ r hr).bI] at ho;cases ho;simp [cW]
 ·rw [(h.pool.rings.at_ r hr).row] at ho;cases ho;simp [cW]
section
variable {W W':World} {bw gs cap bp gp capp:Nat} {spin:Int} {sl:List Sl} {rest restp:List Value} {cs:List Nat} {pm:List Bool}
theorem dQ.off (h:dQ W bw gs cap bp gp capp spin sl rest restp cs pm) {S:Nat→Prop} (hm:Mod S W W') (hS:xZ W S [123,125,195,196,1000002]):dQ W' bw gs cap bp gp capp spin sl rest restp cs pm:=by
 refine ⟨hS.at hm h.bI (by simp [cW]),hS.at hm h.row (by simp [cW]),hS.at hm h.pblk (by simp [cW]),hS.at hm h.prow (by simp [cW]),h.nodup,fun i hi=>?_,h.len,h.plen,h.few⟩
 obtain ⟨v,s,r,hc⟩:=h.chans i hi
 exact ⟨v,s,r,hS.at hm hc (by simp [cW,KY])⟩
theorem dQ.kinds (h:dQ W bw gs cap bp gp capp spin sl rest restp cs pm) {q:Nat} {o:Obj} (hq:q=gs∨q∈cs) (ho:W.heap[q]?=some o):cW o∈ [125,1000002]:=by
 rcases hq with rfl|hq
 ·rw [h.row] at ho;cases ho;simp [cW]
 ·obtain ⟨i,hi,e⟩:=List.mem_iff_getElem.1 hq
  obtain ⟨v,s,r,hc⟩:=h.chans i hi
  rw [e,ho] at hc
  cases hc
  simp [cW,KY]
end
def mH:Kd LP:=Kd.iso (Kd.pair (Kd.int .i64) (Kd.pair (Kd.int .i64) (Kd.int .i64))) (fun x:LP=>(x.k,x.t,x.now))
theorem vC (w:World) (base:Nat) (ok:Nat→Prop) (x:LP):mH.M w base ok x [.int .i64 x.k,.int .i64 x.t,.int .i64 x.now]:=⟨[.int .i64 x.k],[.int .i64 x.t,.int .i64 x.now],rfl,rfl,[.int .i64 x.t],[.int .i64 x.now],rfl,rfl,rfl⟩
theorem BF {w:World} {x:LP} {c:List Value} (h:mH.K w x c):c= [.int .i64 x.k,.int .i64 x.t,.int .i64 x.now]:=by
 obtain ⟨c0,c1,rfl,h0,c2,c3,rfl,h1,h2⟩:=h
 change c0=_ at h0
 change c2=_ at h1
 change c3=_ at h2
 subst h0 h1 h2
 rfl
theorem LO:(Tryz.prog.info? 55).map (fun i=>(i.zero,i.size,i.bytes))=some (some (.agg #[.int .i64 0,.int .i64 0,.int .i64 0]),mH.sz,24):=by kernel_rfl
structure MB where
 x:XB
 bm:Nat
 bw:Nat
 gs:Nat
 cap:Nat
 bpp:Nat
 gp:Nat
 capp:Nat
 gl:Nat
 rest:List Value
 restp:List Value
 cs:List Nat
 tr:Bool
 spin:Int
 B:Nat
structure MV (W:World) (b:MB) (p:dU) (s:MS) (v:Value):Prop where
 bI:W.heap[b.bm]?=some (.cells #[.pointer (some ⟨b.x.be,0,none⟩),.pointer (some ⟨b.bw,0,none⟩),.bool b.tr,.slice (some ⟨b.gl,0,none⟩) s.th.length s.th.length,.int .i64 s.now,v] 76 (0,0))
 seen:Kd.R mH 55 W b.B (fun _=>True) v s.seen
 lock:jQ W b.x p s.x
 waits:dQ W b.bw b.gs b.cap b.bpp b.gp b.capp b.spin s.sl b.rest b.restp b.cs s.pm
 qC:W.heap[b.gl]?=some (.cells (dY s.th) 86 (0,0))
 base:b.B≤W.heap.size
 old:b.B≤b.x.B∧b.B≤b.gs∧b.B≤b.gl∧b.B≤b.bm∧∀ c∈b.cs,b.B≤c
theorem iW (l:List H9) (i j:Nat) (hi:i<l.length) (hj:j<3):(dY l)[i*3+j]?=(l[i]).cells[j]?:=by
 unfold dY
 rw [List.getElem?_toArray,qP H9.cells 3 (fun _=>rfl) l i j hj,List.getElem?_eq_getElem hi]
 rfl
theorem I2 (l:List H9) (i j:Nat) (v:Value) (y:H9) (hi:i<l.length) (hj:j<3) (h:y.cells=(l[i].cells).set j v):(dY l).setIfInBounds (i*3+j) v=dY (l.set i y):=by
 unfold dY
 rw [List.setIfInBounds_toArray,qZ H9.cells 3 (fun _=>rfl) l i j v y hj hi h]
def mvT:List Nat:= [76,55,86,149,214,261,3,310,314,231,227,284,22,1000001,192,123,125,195,196,1000002]
section
variable {W W':World} {b:MB} {p:dU} {s:MS} {v:Value}
theorem MV.off (h:MV W b p s v) {S:Nat→Prop} (hm:Mod S W W') (hS:xZ W S mvT):MV W' b p s v:=
 ⟨hS.at hm h.bI (by simp [cW,mvT]),hS.R hm h.seen (by intro y hy;rcases List.mem_cons.1 hy with rfl|hy;simp [mvT];cases hy),h.lock.off hm (hS.sub (by intro y hy;simp [mvT] at hy ⊢;omega)),h.waits.off hm (hS.sub (by intro y hy;simp [mvT] at hy ⊢;omega)),hS.at hm h.qC (by simp [cW,mvT]),Nat.le_trans h.base hm.size,h.old⟩
theorem MV.below (h:MV W b p s v) (hb:Below W.heap.size W W'):MV W' b p s v:=h.off (Mod.jE hb) (fun _ _ hf _=>hf.elim)
theorem MV.DE (h:MV W b p s v) {x:XS} (hm:Mod (oJ b.x s.x) W W') (hx:jQ W' b.x p x):MV W' b p { s with x:=x } v:=by
 have hO:∀ T:List Nat,(∀ y,y∈T→y∉ [314,192,1000001,284,22])→xZ W (oJ b.x s.x) T:=fun T hT q o hq ho hin=>hT _ hin (h.lock.kinds hq ho)
 exact ⟨(hO [76] (by simp)).at hm h.bI (by simp [cW]),(hO [55] (by simp)).R hm h.seen (by intro y hy;rcases List.mem_cons.1 hy with rfl|hy;simp;cases hy),hx,h.waits.off hm (hO _ (by simp)),(hO [86] (by simp)).at hm h.qC (by simp [cW]),Nat.le_trans h.base hm.size,h.old⟩
theorem MV.mL (h:MV W b p s v) {sl:List Sl} {pm:List Bool} (hm:Mod (fun q=>q=b.gs∨q∈b.cs) W W') (hx:dQ W' b.bw b.gs b.cap b.bpp b.gp b.capp b.spin sl b.rest b.restp b.cs pm):MV W' b p { s with sl:=sl,pm:=pm } v:=by
 have hO:∀ T:List Nat,(∀ y,y∈T→y∉ [125,1000002])→xZ W (fun q=>q=b.gs∨q∈b.cs) T:=fun T hT q o hq ho hin=>hT _ hin (h.waits.kinds hq ho)
 exact ⟨(hO [76] (by simp)).at hm h.bI (by simp [cW]),(hO [55] (by simp)).R hm h.seen (by intro y hy;rcases List.mem_cons.1 hy with rfl|hy;simp;cases hy),h.lock.off hm (hO _ (by simp)),hx,(hO [86] (by simp)).at hm h.qC (by simp [cW]),Nat.le_trans h.base hm.size,h.old⟩
theorem MV.EI (h:MV W b p s v) (t j:Nat) (u:Value) (y:H9) (ht:t<s.th.length) (hj:j<3) (hy:y.cells=(s.th[t].cells).set j u):MV (W.setCell ⟨b.gl,t*3+j,none⟩ u) b p (bP s t y) v:=by
 have hO:∀ T:List Nat,86∉T→xZ W (fun q=>q=b.gl) T:=fun T hT=>xZ.one h.qC hT
 have hm:Mod (fun q=>q=b.gl) W (W.setCell ⟨b.gl,t*3+j,none⟩ u):=(Mod.refl (fun q=>q=b.gl) W).setCell (p:=⟨b.gl,t*3+j,none⟩) rfl u
 refine ⟨by show _=some (Obj.cells #[_,_,_,.slice _ (s.th.set t y).length (s.th.set t y).length,_,_] _ _);rw [List.length_set];exact (hO [76] (by simp)).at hm h.bI (by simp [cW]),(hO [55] (by simp)).R hm h.seen (by intro y hy;rcases List.mem_cons.1 hy with rfl|hy;simp;cases hy),h.lock.off hm (hO _ (by simp)),h.waits.off hm (hO _ (by simp)),?_,Nat.le_trans h.base hm.size,h.old⟩
 exact (bE h.qC (t*3+j) u).trans (by rw [I2 s.th t j u y ht hj hy];rfl)
theorem MV.toNow (h:MV W b p s v) (n:Int):MV (W.setCell ⟨b.bm,4,none⟩ (.int .i64 n)) b p { s with now:=n } v:=by
 have hO:∀ T:List Nat,76∉T→xZ W (fun q=>q=b.bm) T:=fun T hT=>xZ.one h.bI hT
 have hm:Mod (fun q=>q=b.bm) W (W.setCell ⟨b.bm,4,none⟩ (.int .i64 n)):=(Mod.refl (fun q=>q=b.bm) W).setCell (p:=⟨b.bm,4,none⟩) rfl _
 exact ⟨(bE h.bI 4 _).trans rfl,(hO [55] (by simp)).R hm h.seen (by intro y hy;rcases List.mem_cons.1 hy with rfl|hy;simp;cases hy),h.lock.off hm (hO _ (by simp)),h.waits.off hm (hO _ (by simp)),(hO [86] (by simp)).at hm h.qC (by simp [cW]),Nat.le_trans h.base hm.size,h.old⟩
theorem MV.toSeen (h:MV W b p s v) {v1:Value} {x:LP} (hg:W.grownBy W' v.ownBlock) (hr:Kd.R mH 55 W' b.B (fun _=>True) v1 (s.seen++ [x])):MV (W'.setCell ⟨b.bm,5,none⟩ v1) b p { s with seen:=s.seen++ [x] } v1∧Mod (fun q=>q=b.bm∨v.ownBlock=some q) W (W'.setCell ⟨b.bm,5,none⟩ v1):=by
 have hgm:=Mod.grown hg
 have h55:∀ T:List Nat,55∉T→xZ W (fun q=>v.ownBlock=some q) T:=fun T hT q o hq ho hin=>by
  obtain ⟨⟨c,hc⟩,_⟩:=JY h.seen hq
  rw [hc] at ho
  cases ho
  exact hT hin
 have k1:=(h55 [76] (by simp)).at hgm h.bI (by simp [cW])
 have hO:∀ T:List Nat,76∉T→xZ W' (fun q=>q=b.bm) T:=fun T hT=>xZ.one k1 hT
 have hm:Mod (fun q=>q=b.bm) W' (W'.setCell ⟨b.bm,5,none⟩ v1):=(Mod.refl (fun q=>q=b.bm) W').setCell (p:=⟨b.bm,5,none⟩) rfl _
 refine ⟨⟨(bE k1 5 _).trans rfl,(hO [55] (by simp)).R hm hr (by intro y hy;rcases List.mem_cons.1 hy with rfl|hy;simp;cases hy),(h.lock.off hgm (h55 _ (by simp))).off hm (hO _ (by simp)),(h.waits.off hgm (h55 _ (by simp))).off hm (hO _ (by simp)),(hO [86] (by simp)).at hm ((h55 [86] (by simp)).at hgm h.qC (by simp [cW])) (by simp [cW]),Nat.le_trans h.base (Nat.le_trans hg.size hm.size),h.old⟩,?_⟩
 exact (hgm.mono (T:=fun q=>q=b.bm∨v.ownBlock=some q) (fun _ _ hq=> .inr hq)).trans hm (fun _ _ hq=> .inl hq)
end
structure Kept (B:Nat) (W W':World):Prop where
 os:W'.os=W.os
 tape:W'.tape=W.tape
 output:W'.output=W.output
 size:W.heap.size≤W'.heap.size
 obj:∀ q o,W.heap[q]?=some o→(cW o∈ [76,86,125,192,314,284,22,1000001,1000002,55]∧B≤q)∨W'.heap[q]?=some o
section
variable {B:Nat} {W W' W2:World}
theorem Kept.refl (B:Nat) (W:World):Kept B W W:=⟨rfl,rfl,rfl,Nat.le_refl _,fun _ _ h=> .inr h⟩
theorem Kept.trans (h:Kept B W W') (k:Kept B W' W2):Kept B W W2:=
 ⟨k.os.trans h.os,k.tape.trans h.tape,k.output.trans h.output,Nat.le_trans h.size k.size,fun q o hq=>(h.obj q o hq).elim .inl (fun h'=>k.obj q o h')⟩
theorem Kept.mod {S:Nat→Prop} (hm:Mod S W W') (hS:∀ q o,S q→W.heap[q]?=some o→cW o∈ [76,86,125,192,314,284,22,1000001,1000002,55]∧B≤q):Kept B W W':=
 ⟨hm.os,hm.tape,hm.output,hm.size,fun q o hq=>by
  by_cases hs:S q
  ·exact .inl (hS q o hs hq)
  ·exact .inr (hm.bI hq hs)⟩
theorem Kept.below (hb:Below W.heap.size W W'):Kept B W W':=Kept.mod (Mod.jE hb) (fun _ _ hf _=>hf.elim)
theorem Kept.cells (h:Kept B W W') {q t:Nat} {c:Array Value} {f:Nat × Nat} (hq:W.heap[q]?=some (.cells c t f)) (ht:t∉ [76,86,125,192,314,284,22,55]) (h1:t<1000000):W'.heap[q]?=some (.cells c t f):=by
 rcases h.obj q _ hq with ⟨hk,_⟩|hk
 ·simp [cW] at hk ht
  exfalso
  omega
 ·exact hk
theorem Kept.out (h:Kept B W W') (hB:B≤W.heap.size):Below B W W':=⟨h.os,h.tape,h.output,h.size,fun i hi=>by
 have hlt:i<W.heap.size:=by omega
 have e:W.heap[i]?=some W.heap[i]:=Array.getElem?_eq_getElem hlt
 rcases h.obj i _ e with ⟨_,h1⟩|h1
 ·omega
 ·exact h1.trans e.symm⟩
theorem Kept.lock {b:MB} {p:dU} {s:MS} {v:Value} (h:MV W b p s v) (hm:Mod (oJ b.x s.x) W W'):Kept b.B W W':=
 Kept.mod hm (fun q o hq ho=>⟨by have:=h.lock.kinds hq ho;simp at this ⊢;omega,Nat.le_trans h.old.1 (h.lock.old q hq)⟩)
theorem Kept.waits {b:MB} {p:dU} {s:MS} {v:Value} (h:MV W b p s v) (hm:Mod (fun q=>q=b.gs∨q∈b.cs) W W'):Kept b.B W W':=
 Kept.mod hm (fun q o hq ho=>⟨by have:=h.waits.kinds hq ho;simp at this ⊢;omega,by rcases hq with e|e;exact e▸h.old.2.1;exact h.old.2.2.2.2 _ e⟩)
theorem Kept.qC {b:MB} {p:dU} {s:MS} {v:Value} (h:MV W b p s v) (hm:Mod (fun q=>q=b.gl) W W'):Kept b.B W W':=
 Kept.mod hm (fun q o hq ho=>⟨by rw [hq,h.qC] at ho;cases ho;simp [cW],hq▸h.old.2.2.1⟩)
theorem Kept.seen {b:MB} {p:dU} {s:MS} {v:Value} (h:MV W b p s v) (hm:Mod (fun q=>q=b.bm∨v.ownBlock=some q) W W'):Kept b.B W W':=
 Kept.mod hm (fun q o hq ho=>by
  rcases hq with hq|hq
  ·exact ⟨by rw [hq,h.bI] at ho;cases ho;simp [cW],hq▸h.old.2.2.2.1⟩
  ·obtain ⟨⟨c,hc⟩,hB⟩:=JY h.seen hq
   rw [hc] at ho;cases ho
   exact ⟨by simp [cW],hB⟩)
end
def MW (W:World) (b:MB) (p:dU) (s:MS):Prop:=∃ v,MV W b p s v
theorem MW.below {W W':World} {b:MB} {p:dU} {s:MS} (h:MW W b p s) (hb:Below W.heap.size W W'):MW W' b p s:=by
 obtain ⟨v,h⟩:=h
 exact ⟨v,h.below hb⟩
theorem tB (b:MB) (p:dU) (s:MS) (t:Int) (w:World) (h:MW w b p s):
  Calls Tryz.prog 38 #[.pointer (some ⟨b.bm,0,none⟩),.int .i64 t] w fun e w'=>e= .returned (.bool (decide (0≤t∧t<s.th.length)))∧w=w':=by
 obtain ⟨v,h⟩:=h
 have c3:=(aC h.bI 3).trans rfl
 clear h
 by_cases h0:0≤t
 ·have e0:decide (0≤t)=true:=decide_eq_true h0
  have e2:decide (0≤t∧t<s.th.length)=decide (t<s.th.length):=by simp [h0]
  rw [e2]
  clear e2
  generalize s.th.length=n at c3 ⊢
  go_enter Tryz.func38,Tryz.ntmps38
  go_wp2
  go_ret
  exact ⟨rfl,rfl⟩
 ·have e0:decide (0≤t)=false:=decide_eq_false h0
  rw [decide_eq_false (fun hh=>h0 hh.1)]
  go_enter Tryz.func38,Tryz.ntmps38
  go_wp2
  go_ret
  exact ⟨rfl,rfl⟩
theorem wP (b:MB) (p:dU) (s:MS) (t:Nat) (w:World) (h:MW w b p s) (ht:t<s.th.length) (h64:s.th.length≤64):
  Calls Tryz.prog 66 #[.pointer (some ⟨b.bm,0,none⟩),.int .i64 (t:Int)] w fun e w'=>e= .returned (.bool (fY s t))∧Below w.heap.size w w':=by
 obtain ⟨v,h⟩:=h
 have c3:=(aC h.bI 3).trans rfl
 have c4:=(aC h.bI 4).trans rfl
 have hb:=aZ h.bI
 have s0:w.cell? ⟨b.gl,t*3,none⟩=some (.int .i64 s.th[t].state):=(aC h.qC (t*3+0)).trans (iW s.th t 0 ht (by decide))
 have s1:w.cell? ⟨b.gl,t*3+1,none⟩=some (.int .i64 s.th[t].deadline):=(aC h.qC (t*3+1)).trans (iW s.th t 1 ht (by decide))
 have s2:w.cell? ⟨b.gl,t*3+2,none⟩=some (.int .i64 s.th[t].steps):=(aC h.qC (t*3+2)).trans (iW s.th t 2 ht (by decide))
 clear h
 have i1:(t:Int)<(s.th.length:Int):=by omega
 have i2:(s.th.length:Int)≤64:=by omega
 unfold fY
 rw [getD_at ht]
 generalize s.th.length=n at c3 i1 i2
 generalize s.th[t].state=x0 at s0 ⊢
 generalize s.th[t].deadline=x1 at s1 ⊢
 generalize s.th[t].steps=x2 at s2 ⊢
 generalize s.now=nw at c4 ⊢
 have HB:=aA.mk (aD (Below.refl w.heap.size w) (.cells #[.int .i64 x0,.int .i64 x1,.int .i64 x2] 86))
 cases h1:(x0==1)
 ·have e:decide (x0=1∧x1≠ -1∧x1≤nw)=false:=decide_eq_false (fun hh=>by simp [hh.1] at h1)
  rw [e]
  clear e
  go_enter Tryz.func66,Tryz.ntmps66
  go_wp2_with fail
  go_quiet (fail)
  go_wp2
  go_ret
  exact ⟨rfl,aH HB.out _⟩
 ·cases h2:(x1 != -1)
  ·have e:decide (x0=1∧x1≠ -1∧x1≤nw)=false:=decide_eq_false (fun hh=>by simp [hh.2.1] at h2)
   rw [e]
   clear e
   go_enter Tryz.func66,Tryz.ntmps66
   go_wp2_with fail
   go_quiet (fail)
   go_wp2
   go_ret
   exact ⟨rfl,aH HB.out _⟩
  ·have e:decide (x0=1∧x1≠ -1∧x1≤nw)=decide (x1≤nw):=by
    have e1:x0=1:=by simpa using h1
    have e2:x1≠ -1:=by simpa using h2
    simp [e1,e2]
   rw [e]
   clear e
   go_enter Tryz.func66,Tryz.ntmps66
   go_wp2_with fail
   go_quiet (fail)
   go_wp2
   go_ret
   exact ⟨rfl,aH HB.out _⟩
theorem oR (b:MB) (p:dU) (s:MS) (k:Int) (t:Nat) (w:World) (h:MW w b p s) (hn:s.seen.length≤1000000000):
  Calls Tryz.prog 73 #[.pointer (some ⟨b.bm,0,none⟩),.int .i64 k,.int .i64 (t:Int)] w fun e w'=>e= .returned (.tuple #[])∧Kept b.B w w'∧MW w' b p (cM s k t):=by
 obtain ⟨v,h⟩:=h
 obtain ⟨A,cap,hv,_,_⟩:=Kd.bY h.seen
 subst hv
 have H:=aA.mk h
 have HN:=aA.mk hn
 have B0:=aA.mk h.bI
 have HS0:=aA.mk h.seen
 clear h hn
 unfold cM
 generalize hnn:s.seen.length=n at B0 HS0 H HN
 have HLEN:=aA.mk hnn
 clear hnn
 generalize hbe:b.x.be=be at B0
 generalize hbw:b.bw=bw at B0
 generalize htr:b.tr=tr at B0
 generalize hgl:b.gl=gl at B0
 generalize htn:s.th.length=tn at B0
 generalize hnw:s.now=nw at B0 ⊢
 generalize hbm:b.bm=bm at B0 ⊢
 clear hbe hbw htr hgl htn
 have HNW:=aA.mk hnw
 have HBM:=aA.mk hbm
 have HW:=aA.mk (Below.refl w.heap.size w)
 clear hnw hbm
 go_enter Tryz.func73,Tryz.ntmps73
 go_wp2_with fail
 refine dB (n:=17) (S:=fun w'=>w'.heap[bm]?=some (.cells #[.pointer (some ⟨be,0,none⟩),.pointer (some ⟨bw,0,none⟩),.bool tr,.slice (some ⟨gl,0,none⟩) tn tn,.int .i64 nw,.slice A n cap] 76 (0,0))) (ds:= [16]) #[false,false,false,false,false,false,false,false,false,false,false,false,false,false,false,false,false] (by kernel_rfl) rfl rfl B0.out (fun hHeld=>?_)
 replace B0:=aA.mk (drew_ B0.out)
 replace HS0:=aA.mk (Kd.iI HS0.out)
 replace HW:=aA.mk (bG HW.out)
 generalize w.drew=w2 at B0 HS0 HW hHeld ⊢
 refine pur_ 0 6 ?_
 refine pur_ 1 7 ?_
 refine pur_ 2 8 ?_
 refine pur_ 3 9 ?_
 refine pur_ 5 11 ?_
 refine pur_ 6 12 ?_
 refine pur_ 7 13 ?_
 refine pur_ 8 14 ?_
 refine pur_ 9 15 ?_
 refine tak_ 4 10 (.slice A n cap) ?_ hHeld ?_
 ·intro w' hS
  have c5:=(aC hS 5).trans rfl
  clear hHeld hS
  go_simp
 refine tak_ 10 16 (.int .i64 nw) ?_ hHeld ?_
 ·intro w' hS
  have c4:=(aC hS 4).trans rfl
  clear hHeld hS
  go_simp
 refine pur_ 11 17 ?_
 refine on_ 12 18 (fun K hK=>?_)
 refine jX (v:= .slice (some ⟨w2.heap.size,0,none⟩) 1 1) (w1:=w2.alloc (.cells #[.int .i64 k,.int .i64 (t:Int),.int .i64 nw] 55)) (by rfl) rfl (by kernel_rfl) ?_
 refine hK.out _ _ (aV B0.out _) (fun hHeld=>?_)
 clear hK K
 refine nor_ ?_
 refine on_ 13 19 (fun K hK=>?_)
 refine Kd.pU mH (w0:=w2) b.B (by rfl) (.tmp 10) (.tmp 18) 52 55 (.agg #[.int .i64 0,.int .i64 0,.int .i64 0]) 24 rfl Tryz.underlying52 LO rfl (by decide) (by omega) (.slice A n cap) s.seen ⟨k,(t:Int),nw⟩ [.int .i64 k,.int .i64 (t:Int),.int .i64 nw] (fun _=>True) (fun _=>False) rfl rfl (vC _ _ _ _) (fun _ hk=>hk.elim) (fun _ _=>trivial) HS0.out (Below.refl _ _) (Nat.le_trans H.out.base HW.out.size) (by have:=HN.out;have:=HLEN.out;omega) ?_
 intro v1 w4 ho hb hg hat
 have HR:=aA.mk ho
 have HG:=aA.mk hg
 have b0:=aA.mk (j9 HS0.out hg B0.out (by decide))
 obtain ⟨A1,cap1,hv1,_,_⟩:=Kd.bY ho
 generalize List.length _=n1 at hv1
 subst hv1
 have BB:=B0
 clear B0 HS0 ho hb hg hat hHeld
 refine hK.out _ _ b0.out (fun hHeld=>?_)
 clear hK K
 refine nor_ ?_
 refine pur_ 14 20 ?_
 refine pur_ 15 21 ?_
 refine fX (i:=16) (N:=none) #[true,true,true,true,true,true,true,true,true,true,true,true,true,true,true,true,true] rfl rfl (by kernel_rfl) (by decide) (fun K hK=>?_)
 refine iH (w1:=w4.setCell ⟨bm,5,none⟩ (.slice A1 n1 cap1)) (by rfl) rfl ?_ ?_
 ·clear hK hHeld
  have c0:=(aC b0.out 5).trans rfl
  have f0:=aG b0.out 5
  go_simp
 have hF:=H.out.below HW.out
 have hX:=hF.toSeen (v1:= .slice A1 n1 cap1) (x:=⟨k,(t:Int),nw⟩) HG.out HR.out
 rw [HBM.out] at hX
 have HX:=aA.mk hX
 clear b0 BB HG HR hHeld hX hF
 refine hK.out _ _ ?_
 clear hK K
 refine eO (by kernel_rfl) ?_
 go_wp2
 go_end0
 have hX:=HX.out
 rw [← HBM.out] at hX
 refine ⟨rfl,?_,⟨_,by have:=hX.1;rw [HNW.out] at this;rw [← HBM.out];exact this⟩⟩
 rw [← HBM.out]
 exact (Kept.below HW.out).trans (Kept.seen (H.out.below HW.out) hX.2)
structure gD (W:World):Prop where
 marks:W.heap[0]?=some (.cells #[.int .i64 0,.int .i64 2,.int .i64 3,.int .i64 4,.int .i64 9] 224 (0,0))
 ends:W.heap[1]?=some (.cells #[.int .i64 6,.int .i64 0,.int .i64 5,.int .i64 2,.int .i64 10,.int .i64 0,.int .i64 7,.int .i64 0] 226 (0,0))
theorem gD.kept {B:Nat} {W W':World} (h:gD W) (k:Kept B W W'):gD W':=⟨k.cells h.marks (by simp) (by decide),k.cells h.ends (by simp) (by decide)⟩
theorem gD.below {W W':World} (h:gD W) (k:Below W.heap.size W W'):gD W':=h.kept (B:=0) (Kept.below k)
theorem gD.mark {W:World} (h:gD W) (k:Nat) (h1:1≤k) (h4:k≤4):W.cell? ⟨0,k,none⟩=some (.int .i64 (mW (k:Int))):=by
 rcases (by omega:k=1∨k=2∨k=3∨k=4) with rfl|rfl|rfl|rfl <;> exact (aC h.marks _).trans rfl
theorem gD.end0 {W:World} (h:gD W) (k:Nat) (h3:k≤3):W.cell? ⟨1,k*2,none⟩=some (.int .i64 (wC (k:Int))):=by
 rcases (by omega:k=0∨k=1∨k=2∨k=3) with rfl|rfl|rfl|rfl <;> exact (aC h.ends _).trans rfl
theorem YC {W:World} (h:W.heap[1]?=some (.cells #[.int .i64 6,.int .i64 0,.int .i64 5,.int .i64 2,.int .i64 10,.int .i64 0,.int .i64 7,.int .i64 0] 226 (0,0))) (k:Nat) (h3:k≤3):W.cell? ⟨1,k*2+1,none⟩=some (.int .i64 (oE (k:Int))):=by
 rcases (by omega:k=0∨k=1∨k=2∨k=3) with rfl|rfl|rfl|rfl <;> exact (aC h _).trans rfl
theorem Kept.R {α:Type} {d:Kd α} {e B B':Nat} {W W':World} {v:Value} {ys:List α} (k:Kept B W W') (hr:Kd.R d e W B' (fun _=>True) v ys) (ht:∀ y,y∈e :: d.E→y∉ [76,86,125,192,314,284,22,55]∧y<1000000):Kd.R d e W' B' (fun _=>True) v ys:=
 Kd.fB (Kd.eD (Kd.eW hr) (fun q hq hlt=>by
  obtain ⟨_,_,_,y,hy,cs,hh⟩:=hq
  exact (k.cells hh (ht y hy).1 (ht y hy).2).trans hh.symm)) (fun _ hk=>hk.1)
theorem Kept.step {B:Nat} {W W' W2:World} (h:Kept B W W') (hb:Below W'.heap.size W' W2):Kept B W W2:=h.trans (Kept.below hb)
theorem Kept.drew {B:Nat} {W W':World} (h:Kept B W W'):Kept B W W'.drew:=h.step (bG (Below.refl _ _))
theorem Kept.alloc {B:Nat} {W W':World} (h:Kept B W W') (o:Obj):Kept B W (W'.alloc o):=h.step (aD (Below.refl _ _) o)
theorem GI (s:MS) (t:Nat) (ms:List Int) (k:Nat) (hk:k<ms.length):eJ s t (ms.take (k+1))=cM (eJ s t (ms.take k)) (mW ms[k]) t:=by
 unfold eJ
 rw [List.take_succ_eq_append_getElem hk,List.foldl_append]
 rfl
theorem qG (b:MB) (p:dU) (s:MS) (t:Nat) (ms:List Int) (dn addr er:Int) (wb st:Bool) (vm:Value) (B':Nat) (w:World) (h:MW w b p s) (hl:gD w) (ht:t<s.th.length) (h64:s.th.length≤64) (hn:s.seen.length≤900000000)
  (hR:Kd.R (Kd.int .i64) 3 w B' (fun _=>True) vm ms) (hms:ms.length≤256) (hm:∀ k∈ms,1≤k∧k≤4) (d0: -1≤dn) (d3:dn≤3):
  Calls Tryz.prog 70 #[.pointer (some ⟨b.bm,0,none⟩),.int .i64 (t:Int),.agg #[vm,.int .i64 dn,.int .i64 addr,.bool wb,.bool st,.int .i64 er]] w fun e w'=>e= .returned (.tuple #[])∧Kept b.B w w'∧MW w' b p (nM s t ms dn):=by
 obtain ⟨A,cap,rfl,_,_⟩:=Kd.bY hR
 have HR:=aA.mk hR
 have HL:=aA.mk hl
 have H:=aA.mk h
 have HT:=aA.mk (⟨ht,h64,hn,hms⟩:t<s.th.length∧s.th.length≤64∧s.seen.length≤900000000∧ms.length≤256)
 have HM:=aA.mk hm
 have HD:=aA.mk (⟨d0,d3⟩: -1≤dn∧dn≤3)
 clear hR hl h ht h64 hn hms hm d0 d3
 have B1:=aA.mk (bF w (.cells #[.slice A ms.length cap,.int .i64 dn,.int .i64 addr,.bool wb,.bool st,.int .i64 er] 136))
 have HB:=aA.mk (aD (Below.refl w.heap.size w) (.cells #[.slice A ms.length cap,.int .i64 dn,.int .i64 addr,.bool wb,.bool st,.int .i64 er] 136))
 go_enter Tryz.func70,Tryz.ntmps70
 go_wp2_with fail
 have H1:=aA.mk (H.out.below HB.out)
 have HL1:=aA.mk (HL.out.below HB.out)
 have HR1:=aA.mk (Kd.eD HR.out (fun q _ hq=>HB.out.block q hq))
 generalize w.alloc (.cells #[.slice A ms.length cap,.int .i64 dn,.int .i64 addr,.bool wb,.bool st,.int .i64 er] 136)=w1 at B1 HB H1 HL1 HR1 ⊢
 generalize w.heap.size=g0 at B1 ⊢
 clear HR HL H
 go_loopw [11] (fun i wr=>∃ (k:Nat),k≤ms.length∧i= .int .i64 k∧aA (Kept b.B w1 wr)∧aA (MW wr b p (eJ s t (ms.take k)))) (fun i _=>ms.length - (intOf i).toNat)
 case atStart=>exact ⟨0,Nat.zero_le _,rfl,⟨Kept.refl _ _⟩,⟨by rw [List.take_zero];exact H1.out⟩⟩
 case round=>
  obtain ⟨k,hk,rfl,HK,HMW⟩:=hrel
  by_cases hlt:k<ms.length
  ·have hT:decide ((k:Int)<(ms.length:Int))=true:=decide_eq_true (by omega)
   have i1:(k:Int)<(ms.length:Int):=by omega
   have i2:(ms.length:Int)≤256:=by have:=HT.out;omega
   obtain ⟨ad,hA,y0⟩:=Kd.oZ (Kd.dC (HK.out.R HR1.out (by intro y hy;rcases List.mem_cons.1 hy with rfl|hy;exact ⟨by simp,by decide⟩;cases hy))).2.2 (k:Int) (by omega) (by omega)
   subst hA
   simp only [Int.toNat_natCast] at y0
   have hrd:rd ms (k:Int)=ms[k]:=by simp [rd,List.getD_eq_getElem?_getD,List.getElem?_eq_getElem hlt]
   rw [hrd] at y0
   have HTK:=aA.mk (GI s t ms k hlt)
   have hmk:=HM.out _ (List.getElem_mem hlt)
   obtain ⟨q,hq⟩:=Int.eq_ofNat_of_zero_le (show 0≤ms[k] by omega)
   have q1:(0:Int)≤(q:Int):=by omega
   have q4:(q:Int)<5:=by omega
   rw [hq] at y0 HTK
   have m0:=(HL1.out.kept HK.out).mark q (by omega) (by omega)
   have hsl:=p7 t (ms.take k) s
   have htk:(ms.take k).length≤256:=by rw [List.length_take];omega
   have PE:=aA.mk (oR b p (eJ s t (ms.take k)) (mW (q:Int)) t wr HMW.out (by have:=HT.out;omega))
   clear hsl htk
   clear hrd hmk hq
   go_wp2_with (go_at_call 73;refine PE.out.mono ?_;rintro e w9 ⟨rfl,hk9,hM9⟩;have HK9:=aA.mk (HK.out.trans hk9);have HM9:=aA.mk hM9;clear hk9 hM9 HK HMW y0 m0 PE)
   go_roundw
   case rel=>exact ⟨k+1,by omega,by go_num,HK9,⟨by rw [HTK.out];exact HM9.out⟩⟩
   case measure=>simp [intOf];omega
  ·have e:k=ms.length:=by omega
   subst e
   have hT:decide ((ms.length:Int)<(ms.length:Int))=false:=decide_eq_false (by omega)
   rw [List.take_length] at HMW
   have c1:=(aC (HK.out.cells B1.out (by simp) (by decide)) 1).trans rfl
   by_cases hd:0≤dn
   ·have e0:decide (0≤dn)=true:=decide_eq_true hd
    obtain ⟨d,rfl⟩:=Int.eq_ofNat_of_zero_le hd
    have q4:(d:Int)<4:=by have:=HD.out;omega
    have hLk:=HL1.out.kept HK.out
    have m0:=hLk.end0 d (by omega)
    have hsl:=p7 t ms s
    have PE:=aA.mk (oR b p (eJ s t ms) (wC (d:Int)) t wr HMW.out (by have:=HT.out;omega))
    have B2:=aA.mk (HK.out.cells B1.out (by simp) (by decide))
    have HTH:=aA.mk hsl
    clear hLk hsl
    go_wp2_with (go_at_call 73;refine PE.out.mono ?_;rintro e w9 ⟨rfl,hk9,hM9⟩;have HK9:=aA.mk (HK.out.trans hk9);have HM9:=aA.mk hM9;have B9:=aA.mk (hk9.cells B2.out (by simp) (by decide));clear hk9 hM9 HK HMW m0 PE c1 B2)
    obtain ⟨v9,HV0⟩:=HM9.out
    have HV:=aA.mk HV0
    have HCF:aA (nM s t ms (d:Int)=bP (cM (eJ s t ms) (wC (d:Int)) t) t ⟨oE (d:Int),((cM (eJ s t ms) (wC (d:Int)) t).th.getD t dE).deadline,((cM (eJ s t ms) (wC (d:Int)) t).th.getD t dE).steps⟩):=⟨by unfold nM;dsimp only;rw [if_pos (by omega)]⟩
    have hth:(cM (eJ s t ms) (wC (d:Int)) t).th.length=s.th.length:=by show (eJ s t ms).th.length=_;rw [HTH.out.2.2.2.1]
    clear HV0 HM9 HTH
    generalize cM (eJ s t ms) (wC (d:Int)) t=S at HV HCF hth
    have hts:t<S.th.length:=by rw [hth];exact HT.out.1
    rw [getD_at hts] at HCF
    have j0:(0:Int)≤(t:Int):=by omega
    have j1:(t:Int)<(S.th.length:Int):=by omega
    have j2:(S.th.length:Int)≤64:=by have:=HT.out;omega
    have q0:(0:Int)≤(d:Int):=by omega
    have nb:=aA.mk HV.out.bI
    have HL9:=aA.mk (HL1.out.kept HK9.out)
    have NE:=aA.mk HL9.out.ends
    clear HL9 hth
    go_wp2_with fail

    refine dB (n:=13) (S:=fun w'=>w'.heap[b.bm]?=some (.cells #[.pointer (some ⟨b.x.be,0,none⟩),.pointer (some ⟨b.bw,0,none⟩),.bool b.tr,.slice (some ⟨b.gl,0,none⟩) S.th.length S.th.length,.int .i64 S.now,v9] 76 (0,0))∧w'.heap[g0]?=some (.cells #[.slice A ms.length cap,.int .i64 (d:Int),.int .i64 addr,.bool wb,.bool st,.int .i64 er] 136 (0,0))∧w'.heap[1]?=some (.cells #[.int .i64 6,.int .i64 0,.int .i64 5,.int .i64 2,.int .i64 10,.int .i64 0,.int .i64 7,.int .i64 0] 226 (0,0))) (ds:= [12]) #[false,false,false,false,false,false,false,false,false,false,false,false,false] (by kernel_rfl) rfl rfl ⟨nb.out,B9.out,NE.out⟩ (fun hHeld=>?_)
    replace nb:=aA.mk (drew_ nb.out)
    replace B9:=aA.mk (drew_ B9.out)
    replace NE:=aA.mk (drew_ NE.out)
    replace HV:=aA.mk (HV.out.below (bG (Below.refl _ _)))
    replace HK9:=aA.mk (HK9.out.drew)
    generalize w9.drew=w2 at nb B9 NE HV HK9 hHeld ⊢
    refine pur_ 0 33 ?_
    refine pur_ 1 34 ?_
    refine pur_ 2 35 ?_
    refine pur_ 4 37 ?_
    refine pur_ 5 38 ?_
    refine tak_ 3 36 (.slice (some ⟨b.gl,0,none⟩) S.th.length S.th.length) ?_ hHeld ?_
    ·intro w' hS
     have c3:=(aC hS.1 3).trans rfl
     clear hHeld hS
     go_simp
    refine tak_ 6 39 (.int .i64 (d:Int)) ?_ hHeld ?_
    ·intro w' hS
     have c1:=(aC hS.2.1 1).trans rfl
     clear hHeld hS
     go_simp
    refine pur_ 7 40 ?_
    refine pur_ 8 41 ?_
    refine tak_ 9 42 (.int .i64 (oE (d:Int))) ?_ hHeld ?_
    ·intro w' hS
     have m1:=YC hS.2.2 d (by omega)
     clear hHeld hS
     go_simp
    refine pur_ 10 43 ?_
    refine pur_ 11 44 ?_
    refine fX (i:=12) (N:=none) #[true,true,true,true,true,true,true,true,true,true,true,true,true] rfl rfl (by kernel_rfl) (by decide) (fun K hK=>?_)
    refine iH (w1:=w2.setCell ⟨b.gl,t*3,none⟩ (.int .i64 (oE (d:Int)))) (by rfl) rfl ?_ ?_
    ·clear hK hHeld
     have c0:w2.cell? ⟨b.gl,t*3,none⟩=some (.int .i64 S.th[t].state):=(aC HV.out.qC (t*3+0)).trans (iW S.th t 0 hts (by decide))
     have f0:=aG HV.out.qC (t*3)
     go_simp
    have HV2:=aA.mk (show MV (w2.setCell ⟨b.gl,t*3,none⟩ (.int .i64 (oE (d:Int)))) b p (bP S t ⟨oE (d:Int),S.th[t].deadline,S.th[t].steps⟩) v9 from HV.out.EI t 0 (.int .i64 (oE (d:Int))) ⟨oE (d:Int),S.th[t].deadline,S.th[t].steps⟩ hts (by decide) rfl)
    have HK2:=aA.mk (HK9.out.trans (Kept.qC HV.out ((Mod.refl (fun q=>q=b.gl) w2).setCell (p:=⟨b.gl,t*3,none⟩) rfl (.int .i64 (oE (d:Int))))))
    clear nb B9 NE HV HK9 hHeld
    generalize w2.setCell ⟨b.gl,t*3,none⟩ (.int .i64 (oE (d:Int)))=w3 at HK2 HV2 ⊢
    refine hK.out _ _ ?_
    clear hK K
    refine eO (by kernel_rfl) ?_
    go_wp2
    go_end0
    exact ⟨rfl,(Kept.below HB.out).trans HK2.out,⟨_,by rw [HCF.out];exact HV2.out⟩⟩
   ·have e0:decide (0≤dn)=false:=decide_eq_false hd
    go_wp2
    go_end0
    refine ⟨rfl,(Kept.below HB.out).trans HK.out,?_⟩
    unfold nM
    dsimp only
    rw [if_neg (by omega)]
    exact HMW.out
theorem info88:(Tryz.prog.info? 88).map (fun i=>(i.zero,i.size,i.bytes))=some (some (.agg #[.int .i64 0,.int .i64 0,.int .i64 0]),mH.sz,24):=by kernel_rfl
def ent0:LP:=⟨0,0,0⟩
theorem D3 {w:World} {A:Option Addr} {xs:List LP} (h:Kd.C mH w A xs.length xs) (k:Nat) (hk:k<xs.length):∃ ad,A=some ad∧w.cell? (ad.add (k*3))=some (.int .i64 xs[k].k)∧w.cell? ⟨(ad.add (k*3)).block,(ad.add (k*3)).off+1,none⟩=some (.int .i64 xs[k].t)∧w.cell? ⟨(ad.add (k*3)).block,(ad.add (k*3)).off+2,none⟩=some (.int .i64 xs[k].now):=by
 obtain ⟨ad,c,e,_,hK,hc0⟩:=Kd.L5 h ent0 (k:Int) (by omega) (by omega)
 have hx:xs.getD (k:Int).toNat ent0=xs[k]:=by rw [Int.toNat_natCast];exact getD_at hk
 rw [hx] at hK
 have hc:∀ j u,c[j]?=some u→w.cell? (ad.add (k*3+j))=some u:=fun j u hj=>by
  have:=hc0 j u hj
  rwa [Int.toNat_natCast] at this
 obtain rfl:=BF hK
 exact ⟨ad,e,hc 0 _ rfl,by rw [← dF _ _ 1 (by omega)];exact hc 1 _ rfl,by rw [← dF _ _ 2 (by omega)];exact hc 2 _ rfl⟩
theorem nZ (A:Option Addr) (c:Nat) (xs:List LP) (w:World) (hC:Kd.C mH w A xs.length xs) (hl:xs.length≤1000000):Calls Tryz.prog 20 #[.slice A xs.length c] w fun e w'=>
  ∃ v,e= .returned v∧Kd.R mH 88 w' w.heap.size (fun _=>True) v xs∧Below w.heap.size w w':=by
 have HC:=aA.mk hC
 have HL:=aA.mk hl
 clear hC hl
 go_enter Tryz.func20,Tryz.ntmps20
 go_wp2_with fail
 go_loopw [3,8] (fun v i wr=>∃ (k:Nat),k≤xs.length∧i= .int .i64 k∧aA (Kd.R mH 88 wr w.heap.size (fun _=>True) v (xs.take k))∧aA (Below w.heap.size w wr)) (fun _ i _=>xs.length - (intOf i).toNat)
 case atStart=>exact ⟨0,Nat.zero_le _,rfl,⟨by rw [List.take_zero];exact Kd.lA _ _ _ _ _⟩,⟨Below.refl _ _⟩⟩
 case round=>
  obtain ⟨k,hk,rfl,HR,HB⟩:=hrel
  by_cases hlt:k<xs.length
  ·have hT:decide ((k:Int)<(xs.length:Int))=true:=decide_eq_true (by omega)
   have i1:(k:Int)<(xs.length:Int):=by omega
   have i2:(xs.length:Int)≤1000000:=by have:=HL.out;omega
   have HK:=aA.mk (⟨hlt,HL.out⟩:k<xs.length∧xs.length≤1000000)
   obtain ⟨ad,rfl,y0,y1,y2⟩:=D3 (Kd.cH HC.out HB.out) k hlt
   have HT:=aA.mk (List.take_succ_eq_append_getElem hlt)
   generalize xs[k]=x at y0 y1 y2 HT
   obtain ⟨xk,xt,xn⟩:=x
   dsimp only at y0 y1 y2
   have B9:=aA.mk (aD (Below.refl wr.heap.size wr) (.cells #[.int .i64 xk,.int .i64 xt,.int .i64 xn] 55))
   have HBB:=aA.mk (bA HB.out B9.out)
   have HRR:=aA.mk (Kd.pA HR.out B9.out)
   go_wp2_with (((with_reducible refine dT (b:= .append) (xs:=#[.tmp 12,.tmp 20]) rfl ?_);at_builtin;refine Kd.kR mH (w0:=w) (w.heap.size) rfl (.tmp 12) (.tmp 20) 60 88 (.agg #[.int .i64 0,.int .i64 0,.int .i64 0]) 24 rfl Tryz.underlying60 info88 rfl (by decide) (by omega) u3 (xs.take k) ⟨xk,xt,xn⟩ [.int .i64 xk,.int .i64 xt,.int .i64 xn] (fun _=>True) (fun _=>False) rfl (by first|(go_simp;done)|(go_simp;rfl)) ?aP (fun _ hk=>hk.elim) (fun _ _=>trivial) ?aO ?aB ?aS ?aL ?_;(case aP=>exact vC _ _ _ _);(case aO=>exact (by (with_reducible repeat (first|apply Kd.cO|apply Kd.eX));exact HR.out));(case aB=>exact (by repeat (first|exact HB.out|apply aD|apply aH)));(case aS=>exact (by repeat (first|exact (HB.out).size|apply Nat.le_trans (HB.out).size;simp)));(case aL=>rw [List.length_take];have:=HK.out;omega);intro v1 w8 ho hb hg hat;have HR7:=aA.mk ho;have HB7:=aA.mk hb;clear ho hb hg hat;obtain ⟨A1,cap1,hv1,_,_⟩:=Kd.bY HR7.out;generalize List.length _=n1 at hv1;subst hv1))
   go_wp2
   go_roundw
   case rel=>exact ⟨k+1,by omega,by go_num,⟨by rw [HT.out];exact HR7.out⟩,HB7⟩
   case measure=>simp [intOf];omega
  ·have e:k=xs.length:=by omega
   subst e
   have hT:decide ((xs.length:Int)<(xs.length:Int))=false:=decide_eq_false (by omega)
   rw [List.take_length] at HR
   obtain ⟨A1,cap1,hv1,_,_⟩:=Kd.bY HR.out
   generalize hnn:List.length xs=n1 at hv1
   subst hv1
   go_wp2
   go_ret
   exact ⟨_,rfl,HR.out,HB.out⟩
theorem rM (A A2:Option Addr) (c c2:Nat) (xs:List LP) (w:World) (hC:Kd.C mH w A xs.length xs) (hC2:Kd.C mH w A2 xs.length xs) (hl:xs.length≤1000000):Calls Tryz.prog 19 #[.slice A xs.length c,.slice A2 xs.length c2] w fun e w'=>
  e= .returned (.bool true)∧Below w.heap.size w w':=by
 have HC2:=aA.mk hC2
 have HL:=aA.mk hl
 have PR:=aA.mk (nZ A c xs w hC hl)
 clear hC hC2 hl
 have e0:((xs.length:Int) != (xs.length:Int))=false:=by simp
 go_enter Tryz.func19,Tryz.ntmps19
 go_wp2_with (go_at_call 20;refine PR.out.mono ?_;rintro e w1 ⟨v,rfl,hR,hb⟩;obtain ⟨A3,c3,hv,_,hC3⟩:=Kd.bY hR;subst hv;have HC3:=aA.mk hC3;have HB1:=aA.mk hb;have HC1:=aA.mk (Kd.cH HC2.out hb);clear hR hb hC3 PR)
 clear e0
 go_loopw [15] (fun i wr=>∃ (k:Nat),k≤xs.length∧i= .int .i64 k∧aA (Below w1.heap.size w1 wr)) (fun i _=>xs.length - (intOf i).toNat)
 case atStart=>exact ⟨0,Nat.zero_le _,rfl,⟨Below.refl _ _⟩⟩
 case round=>
  obtain ⟨k,hk,rfl,HB⟩:=hrel
  by_cases hlt:k<xs.length
  ·have hT:decide ((k:Int)<(xs.length:Int))=true:=decide_eq_true (by omega)
   have i0:(0:Int)≤(k:Int):=by omega
   have i1:(k:Int)<(xs.length:Int):=by omega
   have i2:(xs.length:Int)≤1000000:=by have:=HL.out;omega
   obtain ⟨ad,hA3,y0,y1,y2⟩:=D3 (Kd.cH HC3.out HB.out) k hlt
   obtain ⟨ad2,hA2,z0,z1,z2⟩:=D3 (Kd.cH HC1.out HB.out) k hlt
   subst hA3 hA2
   generalize xs[k]=x at y0 y1 y2 z0 z1 z2
   obtain ⟨xk,xt,xn⟩:=x
   dsimp only at y0 y1 y2 z0 z1 z2
   have B9:=aA.mk (aD (Below.refl wr.heap.size wr) (.cells #[.int .i64 xk,.int .i64 xt,.int .i64 xn] 88))
   have HB9:=aA.mk (bA HB.out B9.out)
   have N9:=aA.mk (bF wr (.cells #[.int .i64 xk,.int .i64 xt,.int .i64 xn] 88))
   have q0:=(B9.out.cell (World.block_lt_of_cell? wr _ z0)).trans z0
   have q1:=(B9.out.cell (World.block_lt_of_cell? wr _ z1)).trans z1
   have q2:=(B9.out.cell (World.block_lt_of_cell? wr _ z2)).trans z2
   go_wp2_with fail
   generalize wr.alloc (.cells #[.int .i64 xk,.int .i64 xt,.int .i64 xn] 88)=w5 at HB9 N9 q0 q1 q2 ⊢
   have n0:=(aC N9.out 0).trans rfl
   have n1:=(aC N9.out 1).trans rfl
   have n2:=(aC N9.out 2).trans rfl
   clear z0 z1 z2 y0 y1 y2 B9
   go_quiet (fail)
   go_wp2
   go_roundw
   case rel=>exact ⟨k+1,by omega,by go_num,⟨aH HB9.out _⟩⟩
   case measure=>simp [intOf];omega
  ·have e:k=xs.length:=by omega
   subst e
   have hT:decide ((xs.length:Int)<(xs.length:Int))=false:=decide_eq_false (by omega)
   go_wp2
   go_ret
   exact ⟨rfl,bA HB1.out HB.out⟩
def okXB (i:dA):Bool:=(decide (1≤i.op)&&decide (i.op≤13) || decide (16≤i.op)&&decide (i.op≤23))&&(decide (0≤i.d)&&decide (i.d<8))&&(decide (0≤i.s)&&decide (i.s<8))&&(decide (0≤i.t)&&decide (i.t<8))&&(decide (0≤i.k)&&decide (i.k<4294967296))&&(decide (i.op≠5∧i.op≠6) || decide (i.k≤31))&&(decide (0≤i.u)&&decide (i.u<8))
def okMB (i:dA):Bool:=(decide (i.op≠12) || decide (1≤i.k)&&decide (i.k≤4))&&(decide (i.op≠13) || decide (0≤i.k)&&decide (i.k≤3))
theorem N6 {i:dA} (h:okXB i=true):okX i:=by
 unfold okXB at h
 simp only [Bool.and_eq_true,Bool.or_eq_true,decide_eq_true_eq] at h
 obtain ⟨⟨⟨⟨⟨⟨h1,h2⟩,h3⟩,h4⟩,h5⟩,h6⟩,h7⟩:=h
 exact ⟨⟨h1,h2,h3,h4,h5,fun e=>by omega⟩,h7⟩
theorem NS {i:dA} (h:okMB i=true):okM i:=by
 unfold okMB at h
 simp only [Bool.and_eq_true,Bool.or_eq_true,decide_eq_true_eq] at h
 exact ⟨fun e=>by omega,fun e=>by omega⟩
def gP (l:List dA) (r:List Nat):Bool:=nK l r&&l.all okXB&&l.all okMB
theorem dP {p:dU} {c:Int} (g:vS p c) {r:List Nat} (h:gP p.l r=true):eC p:=by
 unfold gP at h
 simp only [Bool.and_eq_true] at h
 exact ⟨⟨r,h.1.1⟩,fun i hi=>NS (List.all_eq_true.1 h.2 i hi),⟨g.good,g.l1,g.l64,g.lo0,g.lo1,g.un0,g.un1,g.h8,g.hr,g.hsum,g.hx,g.hm,g.n1,g.n64,rfl⟩,fun i hi=>N6 (List.all_eq_true.1 h.1.2 i hi)⟩
theorem EU:gP gW [0,0,0,1,0,0,0,1,0]=true:=by kernel_rfl
theorem BW:gP fI [0,0,1,0,0,2,1,0,0,1,0,2,1,0,0,1,0]=true:=by kernel_rfl
theorem RJ:gP tZ [0,0,0,0,0,1,0,0,2,1,0]=true:=by kernel_rfl
theorem US:gP tQ [1,0,0,0,0,0,3,2,0,0,0,1,0,0,1,0,2,1,0,0,0,0,1,0]=true:=by kernel_rfl
theorem UM:gP uE [2,1,0,0,0,0,3,2,1,0,0,0,0,3,2,1,0,0,0,0,0,0,0,0,0,0,1,0,0,0,0,1,0,0,2,1,0,0,0,0,1,0]=true:=by kernel_rfl
theorem G3:gP gR [0,1,0,0,1,0,0,1,0,2,1,0,0,0,0,1,0,0,0,0,0,1,0,0,0,0,1,0]=true:=by kernel_rfl
theorem GZ:gP gV [0,1,0,0,0,3,2,0,0,0,1,0,0,0,2,1,0,0,0,1,0,1,0,0,0,0,0,0,1,0,0,0,0,1,0]=true:=by kernel_rfl
theorem zO (j:Nat) (hj:j≤6):gP (bT j) [0,2,1,0,0,0,0,0,2,1,0,0,1,0]=true:=by
 rcases (by omega:j=0∨j=1∨j=2∨j=3∨j=4∨j=5∨j=6) with rfl|rfl|rfl|rfl|rfl|rfl|rfl <;> kernel_rfl
theorem E1 {c:NH} {p:dU} (h:eA c p):eC p:=by
 have g:=pH h
 cases h with
 |ticket n s sl ea sp n1 n64=>exact dP g EU
 |anderson n j s ea sp n1 n64 hj hnt hs=>exact dP g (zO j hj)
 |graunke n sl ea sp s n1 n64=>exact dP g BW
 |clh n sl ea sp s n1 n64=>exact dP g RJ
 |mcs n sl ea sp s n1 n64=>exact dP g US
 |k42 n sl ea sp s n1 n64=>exact dP g UM
 |clhtry n ea sl sp s n1 n64 e2 e8=>exact dP g G3
 |mcstry n ea sl sp s n1 n64 e1 e8=>exact dP g GZ
theorem U5 {n:Nat} :∀ x∈nN n,0≤x∧x≤n:=by
 intro x hx
 unfold nN at hx
 obtain ⟨k,hk,rfl⟩:=List.mem_map.1 hx
 have:=List.mem_range.1 hk
 omega
theorem BT {c:NH} {p:dU} (h:eA c p) (hs:0≤c.start∧c.start<4294967296):(∀ x∈p.xs,0≤x∧x<4294967296)∧∀ x∈p.r7,0≤x∧x<4294967296:=by
 have rep:∀ (n:Nat),∀ x∈List.replicate n (0:Int),0≤x∧x<4294967296:=fun n x hx=>by rw [(List.mem_replicate.1 hx).2];decide
 cases h with
 |ticket n s sl ea sp n1 n64=>exact ⟨by intro x hx;simp at hx;subst hx;exact hs,rep _⟩
 |anderson n j s ea sp n1 n64 hj hnt hs'=>exact ⟨mem_set (mem_set (rep _) hs) (by decide),rep _⟩
 |graunke n sl ea sp s n1 n64=>exact ⟨mem_set (mem_set (rep _) (by omega)) (by decide),rep _⟩
 |clh n sl ea sp s n1 n64=>exact ⟨rep _,fun x hx=>by have:=U5 x hx;omega⟩
 |mcs n sl ea sp s n1 n64=>exact ⟨rep _,rep _⟩
 |k42 n sl ea sp s n1 n64=>exact ⟨rep _,rep _⟩
 |clhtry n ea sl sp s n1 n64 e2 e8=>exact ⟨mem_set (rep _) (by decide),rep _⟩
 |mcstry n ea sl sp s n1 n64 e1 e8=>exact ⟨rep _,rep _⟩
theorem AM {α:Type} {R:α→List Value→Prop} {f:α→List Value} {size:Nat} (hf:∀ x cs,R x cs→cs=f x):∀ (xs:List α) (cs:List Value),lZ R size xs cs→cs=xs.flatMap f
 | [],cs,h=>by
  have:=h.1
  simp at this
  exact this
 |x :: xs,cs,h=>by
  have h0:=hf _ _ (h.2 0 x rfl)
  simp only [Nat.zero_mul,List.drop_zero] at h0
  have hl:=h.1
  simp only [List.length_cons,Nat.add_mul,Nat.one_mul] at hl
  have h1:=AM (size:=size) hf xs (cs.drop size) ⟨by rw [List.length_drop];omega,fun j q hq=>by
   have:=h.2 (j+1) q (by simpa using hq)
   rw [List.drop_drop]
   rwa [Nat.add_mul,Nat.one_mul,Nat.add_comm] at this⟩
  rw [List.flatMap_cons,← h0,← h1,List.take_append_drop]
theorem IB {α:Type} {d:Kd α} {e B:Nat} {W:World} {v:Value} {xs:List α} {f:α→List Value} (h:Kd.R d e W B (fun _=>True) v xs) (hne:xs≠ []) (hf:∀ x cs,d.K W x cs→cs=f x):∃ g cap rest,v= .slice (some ⟨g,0,none⟩) xs.length cap∧W.heap[g]?=some (.cells (xs.flatMap f++rest).toArray e (0,0))∧B≤g:=by
 obtain ⟨h0,inner,ho,hr⟩:=h
 have hr':=AM (R:=d.K W) hf xs inner ⟨hr.1,fun j p hp=>d.K_of_M (hr.2 j p hp)⟩
 rcases ho.2 with ⟨_,hn⟩|⟨g,cap,cur,e1,hg,hh,hc1,hc2,hc3,hc4⟩
 ·exact absurd (List.length_eq_zero_iff.1 hn) hne
 ·refine ⟨g,cap,cur.toList.drop (xs.length*d.sz),e1,?_⟩
  rw [← hr',← hc4,List.take_append_drop,Array.toArray_toList]
  exact ⟨hh,hg⟩
theorem eH.mem {m:Nat} {rs:List Rg} (h:eH m rs) {r:Rg} (hr:r∈rs):∃ k,k<rs.length∧r.first=0∧r.n=m∧r.xs=fN (k*m) m m:=by
 obtain ⟨k,hk,e⟩:=List.mem_iff_getElem.1 hr
 exact ⟨k,hk,h k r (by rw [List.getElem?_eq_getElem hk,e])⟩
theorem R9 (rs:List Rg):(rs.map Rg.b).flatMap (fun b=> [Value.pointer (some ⟨b,0,none⟩)])=rs.map (fun r=>Value.pointer (some ⟨r.b,0,none⟩)):=by
 induction rs <;> simp_all
theorem NO (cs:List Nat):cs.flatMap (fun c=> [Value.chan (some c)])=cs.map (fun c=>Value.chan (some c)):=by
 induction cs <;> simp_all
def JN (p:dU) (rs:List Rg):XS:=⟨p.xs,rs,fun _=>0,0,p.r7.map cz⟩
theorem YL {W:World} {B be:Nat} {p:dU} {c:Int} (g:vS p c) (h:lN W B p be):∃ b rs,b.be=be∧b.B=B∧jQ W b p (JN p rs)∧rs.length=p.r7.length∧eH p.m rs:=by
 obtain ⟨vl,bm,bc,gc,vs,vb,bp,bq,vr,rs,gk,hE,hq,hrl,hN,hO⟩:=h
 obtain ⟨A,capl,rfl,_,_⟩:=Kd.bY hE.code
 have hne:rs.map Rg.b≠ []:=fun e=>by
  have h1:=List.map_eq_nil_iff.1 e
  rw [h1,List.length_nil] at hrl
  have:=g.n1
  omega
 obtain ⟨gr,cap,rest,hv,hrow,_⟩:=IB (f:=fun b=> [Value.pointer (some ⟨b,0,none⟩)]) hE.pool.row hne (fun x cs hk=>hk)
 subst hv
 have hflat:=R9 rs
 refine ⟨⟨be,bm,bc,gc,bp,gr,cap,bq,gk,B,A,capl,vs,vb,rest⟩,rs,rfl,rfl,⟨hE.bI,hE.code,hE.mem,⟨?_,?_,hE.pool.rings,iQ.made hq,fun r hr=>?_,by show rs.length≤64;rw [hrl];exact g.n64,g.hm⟩,hE.cores,fun q hq=>?_⟩,hrl,hN⟩
 ·have:=hE.pool.bI
  rw [List.length_map] at this
  exact this
 ·rw [hflat] at hrow
  exact hrow
 ·obtain ⟨k,hk,h0,h1,_⟩:=hN.mem hr
  exact ⟨by omega,fun hm=>by omega⟩
 ·rcases hq with e|e|e|⟨r,hr,e⟩
  ·rw [e];exact hO.1
  ·rw [e];exact hO.2.1
  ·rw [e];exact hO.2.2.1
  ·rcases e with e|e <;> rw [e]
   ·exact (hO.2.2.2 r hr).1
   ·exact (hO.2.2.2 r hr).2
theorem YH {p:dU} {rs:List Rg} (hc:eC p) (hrl:rs.length=p.r7.length) (hN:eH p.m rs) (hx:∀ x∈p.xs,0≤x∧x<4294967296) (h7:∀ x∈p.r7,0≤x∧x<4294967296):sP p (JN p rs):=by
 refine ⟨hc.g,hc.ins,by simp [JN],hrl,rfl,fun c hcm=>?_,hx,fun r hr x hxm=>?_,fun r hr=>?_,fun h=>?_⟩
 ·obtain ⟨v,hv,rfl⟩:=List.mem_map.1 hcm
  have:=h7 v hv
  unfold cz Cr.ok
  simp
  exact this
 ·obtain ⟨k,hk,h0,h1,h2⟩:=hN.mem hr
  rw [h2] at hxm
  have hm:=hc.g.hm
  have h64:=hc.g.n64
  have hkm:k*p.m≤64*8:=Nat.mul_le_mul (by omega) hm
  unfold fN at hxm
  rcases List.mem_append.1 hxm with hxm|hxm
  ·obtain ⟨j,hj,rfl⟩:=List.mem_map.1 hxm
   have:=List.mem_range.1 hj
   omega
  ·rw [(List.mem_replicate.1 hxm).2]
   decide
 ·obtain ⟨k,hk,h0,h1,h2⟩:=hN.mem hr
  exact ⟨by omega,fun hm=>by omega,by rw [h2,lT _ _ _ (Nat.le_refl _)]⟩
 ·show 0≤(0:Int)∧(0:Int)≤rs.length
  omega
def VM (p:dU) (rs:List Rg):MS:=⟨JN p rs,List.replicate p.r7.length ⟨0,-1⟩,List.replicate p.r7.length false,List.replicate p.r7.length dE,0,[]⟩
theorem YD {p:dU} {rs:List Rg} (hc:eC p) (hx:sP p (JN p rs)):lG p 0 (VM p rs):=by
 have hth:∀ t,((VM p rs).th.getD t dE).state=0:=fun t=>by
  show ((List.replicate p.r7.length dE).getD t dE).state=0
  rw [List.getD_eq_getElem?_getD,List.getElem?_replicate]
  split <;> rfl
 refine ⟨hx,hc,Nat.le_refl _,List.length_replicate,List.length_replicate,List.length_replicate,fun e he=>?_,⟨Int.le_refl _,Int.le_refl _⟩,Nat.le_refl _,fun e he=>?_,fun t _ hs=>?_⟩
 ·rw [(List.mem_replicate.1 he).2];exact ⟨by decide,by decide⟩
 ·rw [(List.mem_replicate.1 he).2];exact ⟨by decide,by decide⟩
 ·rw [hth t] at hs
  omega
theorem mw_new {W:World} {B bm:Nat} {p:dU} {c:NH} {spin:Int} {tr:Bool} (hS:eA c p) (hs:0≤c.start∧c.start<4294967296) (h:LZ W B p p.r7.length spin tr bm):∃ b rs,b.bm=bm∧b.tr=tr∧b.spin=spin∧b.B=B∧MW W b p (VM p rs)∧lG p 0 (VM p rs)∧rs.length=p.r7.length∧eH p.m rs:=by
 obtain ⟨be,bw,bp,v,vp,cs,gl,hB,hblk,hL,hW,hthr,hgl⟩:=h
 have g:=pH hS
 have hc:=E1 hS
 obtain ⟨xb,rs,rfl,hxB,hE,hrl,hN⟩:=YL g hL
 have hn1:=g.n1
 have hne:List.replicate p.r7.length (⟨0,-1⟩:Sl)≠ []:=fun e=>by have:=congrArg List.length e;rw [List.length_replicate,List.length_nil] at this;omega
 have hcs:cs.length=p.r7.length:=by have:=hW.len;simpa using this
 have hne2:cs≠ []:=fun e=>by rw [e,List.length_nil] at hcs;omega
 obtain ⟨gs,cap,rest,hv,hrow,hgs⟩:=IB (f:=Sl.cells) hW.row hne (fun x cs hk=>by
  obtain ⟨c0,c1,rfl,h0,h1⟩:=hk
  change c0=_ at h0
  change c1=_ at h1
  subst h0 h1
  rfl)
 obtain ⟨gp,capp,restp,hvp,hprow,_⟩:=IB (f:=fun c=> [Value.chan (some c)]) hW.prow hne2 (fun x cs hk=>hk)
 subst hv hvp
 obtain ⟨hr1,hr2⟩:=BT hS hs
 have hX:=YH hc hrl hN hr1 hr2
 refine ⟨⟨xb,bm,bw,gs,cap,bp,gp,capp,gl,rest,restp,cs,tr,spin,B⟩,rs,rfl,rfl,rfl,rfl,⟨_,?_,Kd.lA _ _ _ _ _,hE,⟨?_,hrow,hW.pblk,?_,hW.chans.nodup,fun i hi=>?_,?_,?_,?_⟩,hthr,by have:=aZ hblk;show B≤W.heap.size;omega,⟨Nat.le_of_eq hxB.symm,hgs,hgl,hB,fun c hc=>(hW.chans.at_ c hc).1⟩⟩,YD hc hX,hrl,hN⟩
 ·show _=some (Obj.cells #[_,_,_,.slice _ (List.replicate p.r7.length dE).length (List.replicate p.r7.length dE).length,_,_] _ _)
  rw [List.length_replicate]
  exact hblk
 ·exact hW.bI
 ·rw [NO] at hprow
  exact hprow
 ·refine ⟨undef,0,0,?_⟩
  have:(VM p rs).pm.getD i false=false:=by
   show (List.replicate p.r7.length false).getD i false=false
   rw [List.getD_eq_getElem?_getD,List.getElem?_replicate]
   split <;> rfl
  rw [this]
  exact (hW.chans.at_ _ (List.getElem_mem hi)).2
 ·show cs.length=(List.replicate p.r7.length (⟨0,-1⟩:Sl)).length
  rw [List.length_replicate];exact hcs
 ·show (List.replicate p.r7.length false).length=(List.replicate p.r7.length (⟨0,-1⟩:Sl)).length
  rw [List.length_replicate,List.length_replicate]
 ·show (List.replicate p.r7.length (⟨0,-1⟩:Sl)).length≤64
  rw [List.length_replicate]
  exact g.n64
structure AtI (l:List dA) (pc:Int) (i:dA):Prop where
 p0:0≤pc
 p1:pc<l.length
 i:bJ l pc=i
theorem jF {l:List dA} {q:Nat} {i:dA} (h:l[q]?=some i):AtI l (q:Int) i:=by
 obtain ⟨hq,e⟩:=List.getElem?_eq_some_iff.1 h
 refine ⟨by omega,by omega,?_⟩
 unfold bJ
 rw [Int.toNat_natCast,List.getD_eq_getElem?_getD,h]
 rfl
structure R4 (p:dU) (a v:Int) (A:Nat):Prop where
 a0:0≤a
 a1:a<p.szs.length
 lt:(hIdx v.toNat:Int)<rd p.szs a
 A:(rd (dM p.szs p.szs.length) a+hIdx v.toNat).toNat=A
theorem cV {p:dU} {s:XS} {t:Nat} {late:Bool} {c c1 c2:Cr} {i:dA} {A:Nat} {xs1:List Int} {wr:Bool} {ms:List Int} {dn:Int}
  (hc:s.cs.getD t Cr.zero=c) (hi:AtI p.l c.pc i) (h0:16≤i.op) (h1:i.op<22) (ha:R4 p i.a (c.get i.s) A) (hacc:dS (c.goto (c.pc+1)) s.xs A i late=(c1,xs1,wr,false)) (hgo:go p.l t 256 c1 []=(c2,ms,dn,0)):
  bR p s t late=(⟨ms,dn,A,wr,false,0⟩,⟨xs1,s.rs,s.f,s.took,s.cs.set t c2⟩):=by
 unfold bR
 rw [hc]
 dsimp only
 rw [hi.i,if_neg (fun hh=>hh ⟨hi.p0,hi.p1⟩),if_neg (fun hh=>hh ⟨h0,by omega⟩),if_neg (by omega),if_neg (by omega)]
 have hg:(c.goto (c.pc+1)).get i.s=c.get i.s:=rfl
 rw [hg,if_neg (fun hh=>hh ⟨ha.a0,ha.a1,ha.lt⟩),ha.A,hacc]
 dsimp only
 rw [if_neg (by decide)]
 unfold dH
 rw [hgo]
theorem K5 {p:dU} {s:XS} {t:Nat} {late:Bool} {c c2:Cr} {i:dA} {ms:List Int} {dn:Int} {r:Rg} {h:Int}
  (hc:s.cs.getD t Cr.zero=c) (hi:AtI p.l c.pc i) (h0:i.op=22) (hr:s.rs.getD t nP=r) (hn:r.n≠0) (hh:r.xs.getD r.first 0=h) (hgo:go p.l t 256 ((c.goto (c.pc+1)).set i.d h) []=(c2,ms,dn,0)):
  bR p s t late=(⟨ms,dn,-1,false,false,0⟩,⟨s.xs,s.rs.set t (lB p.m r),jT s.f h (t+1),s.took+1,s.cs.set t c2⟩):=by
 unfold bR
 rw [hc]
 dsimp only
 rw [hi.i,if_neg (fun hh=>hh ⟨hi.p0,hi.p1⟩),if_neg (fun hh=>hh ⟨by omega,by omega⟩),if_pos h0,hr,if_neg hn,hh]
 unfold dH
 rw [hgo]
theorem xfree0 {p:dU} {s:XS} {t:Nat} {late:Bool} {c c2:Cr} {i:dA} {ms:List Int} {dn:Int}
  (hc:s.cs.getD t Cr.zero=c) (hi:AtI p.l c.pc i) (h0:i.op=23) (hh:c.get i.s=0) (hgo:go p.l t 256 (c.goto (c.pc+1)) []=(c2,ms,dn,0)):
  bR p s t late=(⟨ms,dn,-1,false,false,0⟩,⟨s.xs,s.rs,s.f,s.took,s.cs.set t c2⟩):=by
 unfold bR
 rw [hc]
 dsimp only
 have hg:(c.goto (c.pc+1)).get i.s=c.get i.s:=rfl
 rw [hi.i,if_neg (fun hh=>hh ⟨hi.p0,hi.p1⟩),if_neg (fun hh=>hh ⟨by omega,by omega⟩),if_neg (by omega),if_pos h0,hg,if_pos hh]
 unfold dH
 rw [hgo]
theorem RC {p:dU} {s:XS} {t:Nat} {late:Bool} {c c2:Cr} {i:dA} {ms:List Int} {dn h:Int} {u:Nat}
  (hc:s.cs.getD t Cr.zero=c) (hi:AtI p.l c.pc i) (h0:i.op=23) (hh:c.get i.s=h) (hz:h≠0) (hf:s.f h=(u:Int)+1) (hgo:go p.l t 256 (c.goto (c.pc+1)) []=(c2,ms,dn,0)):
  bR p s t late=(⟨ms,dn,-1,false,false,0⟩,⟨s.xs,s.rs.set u (oB p.m (s.rs.getD u nP) (eR h.toNat)),jT s.f h 0,s.took,s.cs.set t c2⟩):=by
 unfold bR
 rw [hc]
 dsimp only
 have hg:(c.goto (c.pc+1)).get i.s=c.get i.s:=rfl
 rw [hi.i,if_neg (fun hh=>hh ⟨hi.p0,hi.p1⟩),if_neg (fun hh=>hh ⟨by omega,by omega⟩),if_neg (by omega),if_pos h0,hg,hh,if_neg hz,hf,if_neg (by omega)]
 rw [show ((u:Int)+1 - 1).toNat=u by omega]
 unfold dH
 rw [hgo]
theorem eN {p:dU} {x:XS} {t:Nat} {c c2:Cr} {pc:Int} (hc:x.cs.getD t Cr.zero=c) (hgo:go p.l t 256 (c.goto pc) []=(c2,[],-1,0)):dH p x t ((x.cs.getD t Cr.zero).goto pc) (-1) false=(⟨[],-1,-1,false,false,0⟩,⟨x.xs,x.rs,x.f,x.took,x.cs.set t c2⟩):=by
 unfold dH
 rw [hc,hgo]
theorem gF {p:dU} {a v:Int} (q k:Nat) {sz:Int} {A:Nat} (ha:a=(q:Int)) (hv:v=(k:Int)) (hk:k<4096) (hs:p.szs[q]?=some sz) (hlt:(k:Int)<sz) (hA:dX p.szs q+(k:Int)=(A:Int)):R4 p a v A:=by
 obtain ⟨hq,e⟩:=List.getElem?_eq_some_iff.1 hs
 have hi:hIdx v.toNat=k:=by rw [hv];unfold hIdx;rw [Int.toNat_natCast];exact Nat.mod_eq_of_lt hk
 have h1:rd p.szs a=sz:=by unfold rd;rw [ha,Int.toNat_natCast,List.getD_eq_getElem?_getD,hs];rfl
 have h2:rd (dM p.szs p.szs.length) a=dX p.szs q:=by
  unfold rd dM
  rw [ha,Int.toNat_natCast,List.getD_eq_getElem?_getD,List.getElem?_map,List.getElem?_range hq]
  rfl
 exact ⟨by omega,by omega,by rw [hi,h1];exact hlt,by rw [hi,h2,hA];rfl⟩
section
variable {c:Cr} {xs:List Int} {A:Nat} {i:dA} {late:Bool} {x:Int}
theorem sK (h:i.op=16) (hx:xs.getD A 0=x):dS c xs A i late=(c.set i.d x,xs,false,false):=by
 unfold dS
 rw [if_pos h,hx]
theorem gG (h:i.op=17):dS c xs A i late=(c,xs.set A (c.get i.t),true,false):=by
 unfold dS
 rw [if_neg (by omega),if_pos h]
theorem oT (h:i.op=18) (hx:xs.getD A 0=x):dS c xs A i late=(c.set i.d x,xs.set A (c.get i.t),true,false):=by
 unfold dS
 rw [if_neg (by omega),if_neg (by omega),if_pos h,hx]
theorem CM (h:i.op=19) (hx:xs.getD A 0=c.get i.t):dS c xs A i late=(c.set i.d 1,xs.set A (c.get i.u),true,false):=by
 unfold dS
 rw [if_neg (by omega),if_neg (by omega),if_neg (by omega),if_pos h,if_pos hx]
theorem acc_fa (h:i.op=20) (hx:xs.getD A 0=x):dS c xs A i late=(c.set i.d x,xs.set A ((x+i.k) % 4294967296),true,false):=by
 unfold dS
 rw [if_neg (by omega),if_neg (by omega),if_neg (by omega),if_neg (by omega),if_pos h,hx]
theorem qE (h:i.op=21) (hx:xs.getD A 0=x) (hg:((x==c.get i.t)==(i.k==0))=true):dS c xs A i late=(c.set i.d x,xs,false,false):=by
 unfold dS
 rw [if_neg (by omega),if_neg (by omega),if_neg (by omega),if_neg (by omega),if_neg (by omega),hx,if_pos hg]
end
def oM (s:XS):Prop:=∀ u,(s.cs.getD u Cr.zero).r0=0
theorem eZ {s:XS} (h:oM s) {t:Nat} {c:Cr} (hc:c.r0=0) (u:Nat):((s.cs.set t c).getD u Cr.zero).r0=0:=by
 rw [eG]
 split
 ·exact hc
 ·exact h u
theorem at_set {cs:List Cr} {t:Nat} (ht:t<cs.length) (c:Cr):(cs.set t c).getD t Cr.zero=c:=by rw [cK _ _ _ _ _ ht,if_pos rfl]
theorem jA {s:XS} (h:oM s) (t:Nat):∃ r1 r2 r3 r4 r5 r6 r7 pc,s.cs.getD t Cr.zero=⟨0,r1,r2,r3,r4,r5,r6,r7,pc⟩:=by
 have:=h t
 revert this
 generalize s.cs.getD t Cr.zero=c
 intro h0
 obtain ⟨r0,r1,r2,r3,r4,r5,r6,r7,pc⟩:=c
 dsimp only at h0
 subst h0
 exact ⟨r1,r2,r3,r4,r5,r6,r7,pc,rfl⟩
structure pY (s:XS):Prop where
 z:oM s
 a:∃ a:Int,0≤a∧a<4294967296∧s.xs= [a,a]
def UC (n:Nat) (s:Int):dU:=⟨gW,0,5,[1,1],[s,s],0,List.replicate n 0⟩
theorem FE (n:Nat) (s0:Int) (s:XS) (h:pY s) (t:Nat) (ht:t<s.cs.length):∃ x2,Lone (UC n s0) t s x2∧pY x2∧x2.cs.length=s.cs.length:=by
 obtain ⟨r1,r2,r3,r4,r5,r6,r7,pc,hc⟩:=jA h.z t
 obtain ⟨a,a0,a1,hx⟩:=h.a
 obtain ⟨xs,rs,f,took,cs⟩:=s
 dsimp only at hx hc ht
 subst hx
 have hl:∀ c:Cr,t<(cs.set t c).length:=fun c=>by rw [List.length_set];exact ht
 refine ⟨_,⟨⟨_,_,_,2,1,eN (c2:=⟨0,r1,r2,r3,r4,r5,r6,r7,0⟩) hc (by kernel_rfl),
  .more (cV (at_set ht _) (i:=⟨20,1,0,0,0,0,1,0⟩) (A:=0) (c1:=⟨0,a,r2,r3,r4,r5,r6,r7,1⟩) (xs1:= [(a+1) % 4294967296,a]) (wr:=true) (c2:=⟨0,a,r2,r3,r4,r5,r6,r7,2⟩) (ms:= [1]) (dn:= -1) (jF (q:=0) rfl) (by decide) (by decide) (gF 0 0 rfl rfl (by decide) rfl (by decide) rfl) (by kernel_rfl) (by kernel_rfl))
   (.last (cV (at_set (hl _) _) (i:=⟨21,2,0,1,0,1,0,-1⟩) (A:=1) (c1:=⟨0,a,a,r3,r4,r5,r6,r7,3⟩) (xs1:= [(a+1) % 4294967296,a]) (wr:=false) (c2:=⟨0,a,a,r3,r4,r5,r6,r7,4⟩) (ms:= [2]) (dn:=1) (jF (q:=2) rfl) (by decide) (by decide) (gF 1 0 rfl rfl (by decide) rfl (by decide) rfl) (by simp [dS,Cr.get,Cr.goto,Cr.set,upd]) (by kernel_rfl)) (by decide)),by decide,
  eN (c2:=⟨0,(a+1) % 4294967296,a,r3,r4,r5,r6,r7,6⟩) (at_set (by simpa using ht) _) (by kernel_rfl),
  .last (cV (at_set (by simpa using ht) _) (i:=⟨17,0,0,1,0,1,0,0⟩) (A:=1) (c1:=⟨0,(a+1) % 4294967296,a,r3,r4,r5,r6,r7,7⟩) (xs1:= [(a+1) % 4294967296,(a+1) % 4294967296]) (wr:=true) (c2:=⟨0,(a+1) % 4294967296,a,r3,r4,r5,r6,r7,8⟩) (ms:= [4]) (dn:=2) (jF (q:=6) rfl) (by decide) (by decide) (gF 1 0 rfl rfl (by decide) rfl (by decide) rfl) (by kernel_rfl) (by kernel_rfl)) (by decide),by decide⟩⟩,⟨?_,?_⟩,?_⟩
 ·intro u
  simp only [List.set_set]
  exact eZ (s:=⟨[a,a],rs,f,took,cs⟩) h.z rfl u
 ·exact ⟨(a+1) % 4294967296,by omega,by omega,rfl⟩
 ·simp
theorem bU {l:List Int} {i j:Nat} {v:Int} (h:i≠j):(l.set i v).getD j 0=l.getD j 0:=by
 rw [List.getD_eq_getElem?_getD,List.getD_eq_getElem?_getD,List.getElem?_set_ne h]
theorem cP {l:List Int} {i:Nat} {v:Int} (h:i<l.length):(l.set i v).getD i 0=v:=by
 rw [List.getD_eq_getElem?_getD,List.getElem?_set_self h];rfl
structure DR (n:Nat) (s:XS):Prop where
 z:oM s
 x0:s.xs.getD 0 0=0
 len:s.xs.length=1+2*n
def MC (n:Nat):dU:=⟨tQ,0,13,[1,n,n],List.replicate (1+2*n) 0,0,List.replicate n 0⟩
theorem RY (n:Nat) (s:XS) (h:DR n s) (t:Nat) (ht:t<s.cs.length) (hn:s.cs.length=n) (h64:n≤64):∃ x2,Lone (MC n) t s x2∧DR n x2∧x2.cs.length=s.cs.length:=by
 obtain ⟨r1,r2,r3,r4,r5,r6,r7,pc,hc⟩:=jA h.z t
 have X2:((s.xs.set (1+t) 0).set (1+n+t) 1).getD 0 0=0:=by rw [bU (by omega),bU (by omega)];exact h.x0
 have X3:(((s.xs.set (1+t) 0).set (1+n+t) 1).set 0 ((t:Int)+1)).getD (1+t) 0=0:=by rw [bU (by omega),bU (by omega),cP (by have:=h.len;omega)]
 have X4:(((s.xs.set (1+t) 0).set (1+n+t) 1).set 0 ((t:Int)+1)).getD 0 0=(t:Int)+1:=by rw [cP (by have:=h.len;simp;omega)]
 have hm:((t:Int)+1) % 4294967296=(t:Int)+1:=by omega
 refine ⟨_,⟨⟨_,_,_,3,2,eN (c2:=⟨0,(t:Int),(t:Int)+1,r3,r4,r5,r6,r7,2⟩) hc (by rw [← hm];kernel_rfl),
  (.more (cV (at_set ht _) (i:=⟨17,0,1,0,0,1,0,0⟩) (A:=1+t) (c1:=⟨0,(t:Int),(t:Int)+1,r3,r4,r5,r6,r7,3⟩) (xs1:=s.xs.set (1+t) 0) (wr:=true) (c2:=⟨0,(t:Int),(t:Int)+1,1,r4,r5,r6,r7,4⟩) (ms:= []) (dn:=(-1)) (jF (q:=2) rfl) (by decide) (by decide) (gF 1 t rfl rfl (by omega) rfl (by omega) (by simp [dX,MC])) (gG rfl) (by kernel_rfl))
   (.more (cV (at_set (by simpa using ht) _) (i:=⟨17,0,1,3,0,2,0,0⟩) (A:=1+n+t) (c1:=⟨0,(t:Int),(t:Int)+1,1,r4,r5,r6,r7,5⟩) (xs1:=(s.xs.set (1+t) 0).set (1+n+t) 1) (wr:=true) (c2:=⟨0,(t:Int),(t:Int)+1,1,r4,r5,r6,r7,5⟩) (ms:= []) (dn:=(-1)) (jF (q:=4) rfl) (by decide) (by decide) (gF 2 t rfl rfl (by omega) rfl (by omega) (by simp [dX,MC])) (gG rfl) (by kernel_rfl))
   (.last (cV (at_set (by simpa using ht) _) (i:=⟨18,4,0,2,0,0,0,0⟩) (A:=0) (c1:=⟨0,(t:Int),(t:Int)+1,1,0,r5,r6,r7,6⟩) (xs1:=((s.xs.set (1+t) 0).set (1+n+t) 1).set 0 ((t:Int)+1)) (wr:=true) (c2:=⟨0,(t:Int),(t:Int)+1,1,0,r5,r6,r7,12⟩) (ms:= [1,2]) (dn:=1) (jF (q:=5) rfl) (by decide) (by decide) (gF 0 0 rfl rfl (by decide) rfl (by decide) rfl) (oT rfl X2) (by kernel_rfl)) (by decide)))),by decide,
  eN (c2:=⟨0,(t:Int),(t:Int)+1,1,0,r5,r6,r7,13⟩) (at_set (by simpa using ht) _) (by kernel_rfl),
  (.more (cV (at_set (by simpa using ht) _) (i:=⟨16,4,1,0,0,1,0,0⟩) (A:=1+t) (c1:=⟨0,(t:Int),(t:Int)+1,1,0,r5,r6,r7,14⟩) (xs1:=((s.xs.set (1+t) 0).set (1+n+t) 1).set 0 ((t:Int)+1)) (wr:=false) (c2:=⟨0,(t:Int),(t:Int)+1,1,0,r5,r6,r7,15⟩) (ms:= []) (dn:=(-1)) (jF (q:=13) rfl) (by decide) (by decide) (gF 1 t rfl rfl (by omega) rfl (by omega) (by simp [dX,MC])) (sK rfl X3) (by kernel_rfl))
   (.last (cV (at_set (by simpa using ht) _) (i:=⟨19,5,0,2,0,0,0,0⟩) (A:=0) (c1:=⟨0,(t:Int),(t:Int)+1,1,0,1,r6,r7,16⟩) (xs1:=(((s.xs.set (1+t) 0).set (1+n+t) 1).set 0 ((t:Int)+1)).set 0 0) (wr:=true) (c2:=⟨0,(t:Int),(t:Int)+1,1,0,1,r6,r7,18⟩) (ms:= [4]) (dn:=2) (jF (q:=15) rfl) (by decide) (by decide) (gF 0 0 rfl rfl (by decide) rfl (by decide) rfl) (CM rfl X4) (by kernel_rfl)) (by decide))),by decide⟩⟩,?_,by simp⟩
 refine ⟨fun u=>?_,?_,?_⟩
 ·simp only [List.set_set]
  exact eZ (s:=s) h.z rfl u
 ·rw [cP (by have:=h.len;simp;omega)]
 ·have:=h.len
  simp
  omega
structure DH (n:Nat) (s:XS):Prop where
 z:oM s
 x0:s.xs.getD 0 0=0
 x1:s.xs.getD 1 0=0
 len:s.xs.length=2+2*n
def spK42 (n:Nat):dU:=⟨uE,0,30,[1,1,n,n],List.replicate (2+2*n) 0,0,List.replicate n 0⟩
theorem UN (n:Nat) (s:XS) (h:DH n s) (t:Nat) (ht:t<s.cs.length) (hn:s.cs.length=n) (h64:n≤64):∃ x2,Lone (spK42 n) t s x2∧DH n x2∧x2.cs.length=s.cs.length:=by
 obtain ⟨r1,r2,r3,r4,r5,r6,r7,pc,hc⟩:=jA h.z t
 have X1:(s.xs.set 0 1).getD 1 0=0:=by rw [bU (by omega)];exact h.x1
 have X2:(s.xs.set 0 1).getD 0 0=1:=by rw [cP (by have:=h.len;omega)]
 have hm:((t:Int)+2) % 4294967296=(t:Int)+2:=by omega
 refine ⟨_,⟨⟨_,_,_,2,2,eN (c2:=⟨0,(t:Int),(t:Int)+2,1,r4,r5,r6,r7,3⟩) hc (by rw [← hm];kernel_rfl),
  (.more (cV (at_set ht _) (i:=⟨16,4,0,0,0,0,0,0⟩) (A:=0) (c1:=⟨0,(t:Int),(t:Int)+2,1,0,r5,r6,r7,4⟩) (xs1:=s.xs) (wr:=false) (c2:=⟨0,(t:Int),(t:Int)+2,1,0,r5,r6,r7,5⟩) (ms:= []) (dn:=(-1)) (jF (q:=3) rfl) (by decide) (by decide) (gF 0 0 rfl rfl (by decide) rfl (by decide) rfl) (sK rfl h.x0) (by kernel_rfl))
   (.last (cV (at_set (by simpa using ht) _) (i:=⟨19,5,0,0,3,0,0,0⟩) (A:=0) (c1:=⟨0,(t:Int),(t:Int)+2,1,0,1,r6,r7,6⟩) (xs1:=s.xs.set 0 1) (wr:=true) (c2:=⟨0,(t:Int),(t:Int)+2,1,0,1,r6,r7,9⟩) (ms:= [1,2]) (dn:=1) (jF (q:=5) rfl) (by decide) (by decide) (gF 0 0 rfl rfl (by decide) rfl (by decide) rfl) (CM rfl h.x0) (by kernel_rfl)) (by decide))),by decide,
  eN (c2:=⟨0,(t:Int),(t:Int)+2,1,0,1,r6,r7,30⟩) (at_set (by simpa using ht) _) (by kernel_rfl),
  (.more (cV (at_set (by simpa using ht) _) (i:=⟨16,4,0,0,0,1,0,0⟩) (A:=1) (c1:=⟨0,(t:Int),(t:Int)+2,1,0,1,r6,r7,31⟩) (xs1:=s.xs.set 0 1) (wr:=false) (c2:=⟨0,(t:Int),(t:Int)+2,1,0,1,r6,r7,33⟩) (ms:= []) (dn:=(-1)) (jF (q:=30) rfl) (by decide) (by decide) (gF 1 0 rfl rfl (by decide) rfl (by decide) rfl) (sK rfl X1) (by kernel_rfl))
   (.last (cV (at_set (by simpa using ht) _) (i:=⟨19,5,0,3,0,0,0,0⟩) (A:=0) (c1:=⟨0,(t:Int),(t:Int)+2,1,0,1,r6,r7,34⟩) (xs1:=(s.xs.set 0 1).set 0 0) (wr:=true) (c2:=⟨0,(t:Int),(t:Int)+2,1,0,1,r6,r7,36⟩) (ms:= [4]) (dn:=2) (jF (q:=33) rfl) (by decide) (by decide) (gF 0 0 rfl rfl (by decide) rfl (by decide) rfl) (CM rfl X2) (by kernel_rfl)) (by decide))),by decide⟩⟩,?_,by simp⟩
 refine ⟨fun u=>?_,?_,?_,?_⟩
 ·simp only [List.set_set]
  exact eZ (s:=s) h.z rfl u
 ·rw [cP (by have:=h.len;simp;omega)]
 ·rw [bU (by omega),bU (by omega)]
  exact h.x1
 ·have:=h.len
  simp
  omega
structure DU (n:Nat) (s:XS):Prop where
 z:oM s
 len:s.xs.length=n+2
 q:∃ (h:Nat) (q:Nat→Nat),h≤n∧s.xs.getD 0 0=(h:Int)∧s.xs.getD (1+h) 0=0∧(∀ u,u<n→(s.cs.getD u Cr.zero).r7=(q u:Int)∧q u≤n∧q u≠h)∧∀ u v,u<n→v<n→q u=q v→u=v
def K9 (n:Nat):dU:=⟨tZ,0,7,[1,((n+1:Nat):Int)],List.replicate (n+2) 0,0,nN n⟩
theorem VD (n:Nat) (s:XS) (hr:DU n s) (t:Nat) (ht:t<s.cs.length) (hn:s.cs.length=n) (h64:n≤64):∃ x2,Lone (K9 n) t s x2∧DU n x2∧x2.cs.length=s.cs.length:=by
 obtain ⟨r1,r2,r3,r4,r5,r6,r7,pc,hc⟩:=jA hr.z t
 obtain ⟨h,q,h0,hx0,hx1,hq,hinj⟩:=hr.q
 obtain ⟨e7,q1,q2⟩:=hq t (by omega)
 rw [hc] at e7
 dsimp only at e7
 subst e7
 have X1:(s.xs.set (1+q t) 1).getD 0 0=(h:Int):=by rw [bU (by omega)];exact hx0
 have X2:((s.xs.set (1+q t) 1).set 0 (q t:Int)).getD (1+h) 0=0:=by rw [bU (by omega),bU (by omega)];exact hx1
 have hl:=hr.len
 refine ⟨_,⟨⟨_,_,_,3,1,eN (c2:=⟨0,1,r2,r3,r4,r5,r6,(q t:Int),1⟩) hc (by kernel_rfl),
  (.more (cV (at_set ht _) (i:=⟨17,0,7,1,0,1,0,0⟩) (A:=1+q t) (c1:=⟨0,1,r2,r3,r4,r5,r6,(q t:Int),2⟩) (xs1:=s.xs.set (1+q t) 1) (wr:=true) (c2:=⟨0,1,r2,r3,r4,r5,r6,(q t:Int),2⟩) (ms:= []) (dn:=(-1)) (jF (q:=1) rfl) (by decide) (by decide) (gF 1 (q t) rfl rfl (by omega) rfl (by omega) (by simp [dX,K9])) (gG rfl) (by kernel_rfl))
   (.more (cV (at_set (by simpa using ht) _) (i:=⟨18,6,0,7,0,0,0,0⟩) (A:=0) (c1:=⟨0,1,r2,r3,r4,r5,(h:Int),(q t:Int),3⟩) (xs1:=(s.xs.set (1+q t) 1).set 0 (q t:Int)) (wr:=true) (c2:=⟨0,1,r2,r3,r4,r5,(h:Int),(q t:Int),4⟩) (ms:= [1]) (dn:=(-1)) (jF (q:=2) rfl) (by decide) (by decide) (gF 0 0 rfl rfl (by decide) rfl (by decide) rfl) (oT rfl X1) (by kernel_rfl))
   (.last (cV (at_set (by simpa using ht) _) (i:=⟨21,1,6,0,0,1,0,-1⟩) (A:=1+h) (c1:=⟨0,0,r2,r3,r4,r5,(h:Int),(q t:Int),5⟩) (xs1:=(s.xs.set (1+q t) 1).set 0 (q t:Int)) (wr:=false) (c2:=⟨0,0,r2,r3,r4,r5,(h:Int),(q t:Int),6⟩) (ms:= [2]) (dn:=1) (jF (q:=4) rfl) (by decide) (by decide) (gF 1 h rfl rfl (by omega) rfl (by omega) (by simp [dX,K9])) (qE rfl X2 (by kernel_rfl)) (by kernel_rfl)) (by decide)))),by decide,
  eN (c2:=⟨0,0,r2,r3,r4,r5,(h:Int),(q t:Int),7⟩) (at_set (by simpa using ht) _) (by kernel_rfl),
  (.last (cV (at_set (by simpa using ht) _) (i:=⟨17,0,7,0,0,1,0,0⟩) (A:=1+q t) (c1:=⟨0,0,r2,r3,r4,r5,(h:Int),(q t:Int),8⟩) (xs1:=((s.xs.set (1+q t) 1).set 0 (q t:Int)).set (1+q t) 0) (wr:=true) (c2:=⟨0,0,r2,r3,r4,r5,(h:Int),(h:Int),10⟩) (ms:= [4]) (dn:=2) (jF (q:=7) rfl) (by decide) (by decide) (gF 1 (q t) rfl rfl (by omega) rfl (by omega) (by simp [dX,K9])) (gG rfl) (by kernel_rfl)) (by decide)),by decide⟩⟩,⟨fun u=>?_,by simp [hl],q t,fun u=>if u=t then h else q u,q1,?_,?_,fun u hu=>?_,fun u v hu hv=>?_⟩,by simp⟩
 ·simp only [List.set_set]
  exact eZ (s:=s) hr.z rfl u
 ·rw [bU (by omega),cP (by simp;omega)]
 ·rw [cP (by simp;omega)]
 ·simp only [List.set_set]
  rw [cK _ _ _ _ _ ht]
  by_cases e:u=t
  ·simp only [e,if_true]
   exact ⟨trivial,h0,fun e=>q2 e.symm⟩
  ·simp only [if_neg e]
   obtain ⟨a1,a2,a3⟩:=hq u hu
   exact ⟨a1,a2,fun e2=>e (hinj u t hu (by omega) e2)⟩
 ·intro e
  dsimp only at e
  by_cases e1:u=t
  ·by_cases e2:v=t
   ·omega
   ·rw [if_pos e1,if_neg e2] at e
    exact absurd e.symm (hq v hv).2.2
  ·by_cases e2:v=t
   ·rw [if_neg e1,if_pos e2] at e
    exact absurd e (hq u hu).2.2
   ·rw [if_neg e1,if_neg e2] at e
    exact hinj u v hu hv e
theorem TT (t v:Nat) (ht:t<64) (hv:v<2):Go.bits .or .u32 (((t:Int)*2 ^ 1) % 4294967296) (v:Int)=((2*t+v:Nat):Int):=by
 rw [show ((t:Int)*2 ^ 1) % 4294967296=((2*t:Nat):Int) by omega,TP (2*t) v (by omega) (by omega)]
 have:=Nat.two_pow_add_eq_or_of_lt (i:=1) (b:=v) (by omega) t
 rw [Nat.pow_one] at this
 rw [← this]
theorem K0 (u b:Nat) (hu:u≤64) (hb:b<2):Go.bits .and .u32 ((2*u+b:Nat):Int) 1=(b:Int):=by
 rw [show (1:Int)=((1:Nat):Int) from rfl,CK (2*u+b) 1 (by omega) (by decide),Nat.and_one_is_mod]
 congr 1
 omega
theorem LB (u b:Nat) (hb:b<2):((2*u+b:Nat):Int) / 2 ^ 1=(u:Int):=by omega
structure ID (n:Nat) (s:XS):Prop where
 z:oM s
 len:s.xs.length=n+2
 bits:∀ u,u≤n→∃ v:Nat,v<2∧s.xs.getD (1+u) 0=(v:Int)
 q:∃ u b:Nat,u≤n∧b<2∧s.xs.getD 0 0=((2*u+b:Nat):Int)∧s.xs.getD (1+u) 0≠(b:Int)
def IS (n:Nat):dU:=⟨fI,0,11,[1,((n+1:Nat):Int)],((List.replicate (n+2) 0).set 0 (2*(n:Int))).set (n+1) 1,0,List.replicate n 0⟩
theorem YX (n:Nat) (s:XS) (hr:ID n s) (t:Nat) (ht:t<s.cs.length) (hn:s.cs.length=n) (h64:n≤64):∃ x2,Lone (IS n) t s x2∧ID n x2∧x2.cs.length=s.cs.length:=by
 obtain ⟨r1,r2,r3,r4,r5,r6,r7,pc,hc⟩:=jA hr.z t
 obtain ⟨u,b,hu,hb,hx0,hx1⟩:=hr.q
 obtain ⟨v,hv0,hv1⟩:=hr.bits t (by omega)
 have hl:=hr.len
 obtain ⟨w,hw'⟩:∃ w,w=s.xs.getD (1+u) 0:=⟨_,rfl⟩
 have X2:∀ y,(s.xs.set 0 y).getD (1+u) 0=w:=fun y=>(bU (by omega)).trans hw'.symm
 have hw:w≠(b:Int):=by rw [hw'];exact hx1
 rcases (by omega:v=0∨v=1) with rfl|rfl
 ·refine ⟨_,⟨⟨_,_,_,3,1,eN (c2:=⟨0,(t:Int),r2,r3,r4,r5,r6,r7,1⟩) hc (by kernel_rfl),
  (.more (cV (at_set ht _) (i:=⟨16,2,1,0,0,1,0,0⟩) (A:=1+t) (c1:=⟨0,(t:Int),0,r3,r4,r5,r6,r7,2⟩) (xs1:=s.xs) (wr:=false) (c2:=⟨0,(t:Int),0,((2*t+0:Nat):Int),r4,r5,r6,r7,4⟩) (ms:= []) (dn:=(-1)) (jF (q:=1) rfl) (by decide) (by decide) (gF 1 t rfl rfl (by omega) rfl (by omega) (by simp [dX,IS])) (sK rfl hv1) (by rw [← TT t 0 (by omega) hv0];kernel_rfl))
   (.more (cV (at_set (by simpa using ht) _) (i:=⟨18,4,0,3,0,0,0,0⟩) (A:=0) (c1:=⟨0,(t:Int),0,((2*t+0:Nat):Int),((2*u+b:Nat):Int),r5,r6,r7,5⟩) (xs1:=s.xs.set 0 ((2*t+0:Nat):Int)) (wr:=true) (c2:=⟨0,(t:Int),0,((2*t+0:Nat):Int),((2*u+b:Nat):Int),(b:Int),(u:Int),r7,8⟩) (ms:= [1]) (dn:=(-1)) (jF (q:=4) rfl) (by decide) (by decide) (gF 0 0 rfl rfl (by decide) rfl (by decide) rfl) (oT rfl hx0) (Eq.trans (b:=(⟨0,(t:Int),0,((2*t+0:Nat):Int),((2*u+b:Nat):Int),Go.bits .and .u32 ((2*u+b:Nat):Int) 1,((2*u+b:Nat):Int) / 2 ^ 1,r7,8⟩,[1],-1,0)) (by kernel_rfl) (by rw [LB u b hb,K0 u b (by omega) hb])))
   (.last (cV (at_set (by simpa using ht) _) (i:=⟨21,4,6,5,0,1,1,-1⟩) (A:=1+u) (c1:=⟨0,(t:Int),0,((2*t+0:Nat):Int),w,(b:Int),(u:Int),r7,9⟩) (xs1:=s.xs.set 0 ((2*t+0:Nat):Int)) (wr:=false) (c2:=⟨0,(t:Int),0,((2*t+0:Nat):Int),w,(b:Int),(u:Int),r7,10⟩) (ms:= [2]) (dn:=1) (jF (q:=8) rfl) (by decide) (by decide) (gF 1 u rfl rfl (by omega) rfl (by omega) (by simp [dX,IS])) (qE rfl (X2 _) (by show ((w==(b:Int))==((1:Int)==0))=true;rw [show (w==(b:Int))=false from beq_eq_false_iff_ne.mpr hw];rfl)) (by kernel_rfl)) (by decide)))),by decide,
  eN (c2:=⟨0,(t:Int),0,1,w,(b:Int),(u:Int),r7,14⟩) (at_set (by simpa using ht) _) (by kernel_rfl),
  (.last (cV (at_set (by simpa using ht) _) (i:=⟨17,0,1,3,0,1,0,0⟩) (A:=1+t) (c1:=⟨0,(t:Int),0,1,w,(b:Int),(u:Int),r7,15⟩) (xs1:=(s.xs.set 0 ((2*t+0:Nat):Int)).set (1+t) 1) (wr:=true) (c2:=⟨0,(t:Int),0,1,w,(b:Int),(u:Int),r7,16⟩) (ms:= [4]) (dn:=2) (jF (q:=14) rfl) (by decide) (by decide) (gF 1 t rfl rfl (by omega) rfl (by omega) (by simp [dX,IS])) (gG rfl) (by kernel_rfl)) (by decide)),by decide⟩⟩,⟨fun x=>?_,by simp [hl],fun x hx=>?_,t,0,by omega,by decide,?_,?_⟩,by simp⟩
  ·simp only [List.set_set]
   exact eZ (s:=s) hr.z rfl x
  ·by_cases e:x=t
   ·subst e
    exact ⟨1,by decide,cP (by simp;omega)⟩
   ·obtain ⟨q,q0,q1⟩:=hr.bits x hx
    exact ⟨q,q0,by rw [bU (by omega),bU (by omega)];exact q1⟩
  ·rw [bU (by omega),cP (by omega)]
  ·rw [cP (by simp;omega)]
   decide
 ·refine ⟨_,⟨⟨_,_,_,3,1,eN (c2:=⟨0,(t:Int),r2,r3,r4,r5,r6,r7,1⟩) hc (by kernel_rfl),
  (.more (cV (at_set ht _) (i:=⟨16,2,1,0,0,1,0,0⟩) (A:=1+t) (c1:=⟨0,(t:Int),1,r3,r4,r5,r6,r7,2⟩) (xs1:=s.xs) (wr:=false) (c2:=⟨0,(t:Int),1,((2*t+1:Nat):Int),r4,r5,r6,r7,4⟩) (ms:= []) (dn:=(-1)) (jF (q:=1) rfl) (by decide) (by decide) (gF 1 t rfl rfl (by omega) rfl (by omega) (by simp [dX,IS])) (sK rfl hv1) (by rw [← TT t 1 (by omega) hv0];kernel_rfl))
   (.more (cV (at_set (by simpa using ht) _) (i:=⟨18,4,0,3,0,0,0,0⟩) (A:=0) (c1:=⟨0,(t:Int),1,((2*t+1:Nat):Int),((2*u+b:Nat):Int),r5,r6,r7,5⟩) (xs1:=s.xs.set 0 ((2*t+1:Nat):Int)) (wr:=true) (c2:=⟨0,(t:Int),1,((2*t+1:Nat):Int),((2*u+b:Nat):Int),(b:Int),(u:Int),r7,8⟩) (ms:= [1]) (dn:=(-1)) (jF (q:=4) rfl) (by decide) (by decide) (gF 0 0 rfl rfl (by decide) rfl (by decide) rfl) (oT rfl hx0) (Eq.trans (b:=(⟨0,(t:Int),1,((2*t+1:Nat):Int),((2*u+b:Nat):Int),Go.bits .and .u32 ((2*u+b:Nat):Int) 1,((2*u+b:Nat):Int) / 2 ^ 1,r7,8⟩,[1],-1,0)) (by kernel_rfl) (by rw [LB u b hb,K0 u b (by omega) hb])))
   (.last (cV (at_set (by simpa using ht) _) (i:=⟨21,4,6,5,0,1,1,-1⟩) (A:=1+u) (c1:=⟨0,(t:Int),1,((2*t+1:Nat):Int),w,(b:Int),(u:Int),r7,9⟩) (xs1:=s.xs.set 0 ((2*t+1:Nat):Int)) (wr:=false) (c2:=⟨0,(t:Int),1,((2*t+1:Nat):Int),w,(b:Int),(u:Int),r7,10⟩) (ms:= [2]) (dn:=1) (jF (q:=8) rfl) (by decide) (by decide) (gF 1 u rfl rfl (by omega) rfl (by omega) (by simp [dX,IS])) (qE rfl (X2 _) (by show ((w==(b:Int))==((1:Int)==0))=true;rw [show (w==(b:Int))=false from beq_eq_false_iff_ne.mpr hw];rfl)) (by kernel_rfl)) (by decide)))),by decide,
  eN (c2:=⟨0,(t:Int),1,0,w,(b:Int),(u:Int),r7,14⟩) (at_set (by simpa using ht) _) (by kernel_rfl),
  (.last (cV (at_set (by simpa using ht) _) (i:=⟨17,0,1,3,0,1,0,0⟩) (A:=1+t) (c1:=⟨0,(t:Int),1,0,w,(b:Int),(u:Int),r7,15⟩) (xs1:=(s.xs.set 0 ((2*t+1:Nat):Int)).set (1+t) 0) (wr:=true) (c2:=⟨0,(t:Int),1,0,w,(b:Int),(u:Int),r7,16⟩) (ms:= [4]) (dn:=2) (jF (q:=14) rfl) (by decide) (by decide) (gF 1 t rfl rfl (by omega) rfl (by omega) (by simp [dX,IS])) (gG rfl) (by kernel_rfl)) (by decide)),by decide⟩⟩,⟨fun x=>?_,by simp [hl],fun x hx=>?_,t,1,by omega,by decide,?_,?_⟩,by simp⟩
  ·simp only [List.set_set]
   exact eZ (s:=s) hr.z rfl x
  ·by_cases e:x=t
   ·subst e
    exact ⟨0,by decide,cP (by simp;omega)⟩
   ·obtain ⟨q,q0,q1⟩:=hr.bits x hx
    exact ⟨q,q0,by rw [bU (by omega),bU (by omega)];exact q1⟩
  ·rw [bU (by omega),cP (by omega)]
  ·rw [cP (by simp;omega)]
   decide
theorem and63 (a:Nat) (ha:a<4294967296):Go.bits .and .u32 (a:Int) (((2 ^ 6 - 1:Nat)):Int)=((a % 64:Nat):Int):=by
 rw [CK a (2 ^ 6 - 1) ha (by decide),Nat.and_two_pow_sub_one_eq_mod]
structure CR (s:XS):Prop where
 z:oM s
 len:s.xs.length=65
 a:∃ a:Nat,a<4294967296∧s.xs.getD 0 0=(a:Int)∧s.xs.getD (1+a % 64) 0=1
def sZ (n:Nat):dU:=⟨bT 6,0,8,[1,((2 ^ 6:Nat):Int)],((List.replicate (2 ^ 6+1) 0).set 0 0).set (1+0 % 2 ^ 6) 1,0,List.replicate n 0⟩
theorem Q3 (n:Nat) (s:XS) (hr:CR s) (t:Nat) (ht:t<s.cs.length):∃ x2,Lone (sZ n) t s x2∧CR x2∧x2.cs.length=s.cs.length:=by
 obtain ⟨r1,r2,r3,r4,r5,r6,r7,pc,hc⟩:=jA hr.z t
 obtain ⟨a,ha,h0,h1⟩:=hr.a
 have hl:=hr.len
 obtain ⟨a1,ha1,ha2⟩:∃ a1:Nat,(a1:Int)=((a:Int)+1) % 4294967296∧a1<4294967296:=⟨(a+1) % 4294967296,by omega,by omega⟩
 have m0:=Nat.mod_lt a (show 0<64 by decide)
 have m1:=Nat.mod_lt a1 (show 0<64 by decide)
 have X1:(s.xs.set 0 (a1:Int)).getD (1+a % 64) 0=1:=(bU (by omega)).trans h1
 refine ⟨_,⟨⟨_,_,_,3,1,eN (c2:=⟨0,r1,r2,r3,r4,r5,r6,r7,0⟩) hc (by kernel_rfl),
  (.more (cV (s:=⟨s.xs,s.rs,s.f,s.took,s.cs.set t ⟨0,r1,r2,r3,r4,r5,r6,r7,0⟩⟩) (p:=sZ n) (t:=t) (late:=false) (at_set ht _) (i:=⟨20,1,0,0,0,0,1,0⟩) (A:=0) (c1:=⟨0,(a:Int),r2,r3,r4,r5,r6,r7,1⟩) (xs1:=s.xs.set 0 (a1:Int)) (wr:=true) (c2:=⟨0,(a:Int),((a % 64:Nat):Int),1,r4,r5,r6,r7,4⟩) (ms:= [1]) (dn:=(-1)) (jF (q:=0) rfl) (by decide) (by decide) (gF 0 0 rfl rfl (by decide) rfl (by decide) rfl) (Eq.trans (acc_fa rfl h0) (by show (_,s.xs.set 0 (((a:Int)+1) % 4294967296),_,_)=_;rw [← ha1];rfl)) (Eq.trans (b:=(⟨0,(a:Int),Go.bits .and .u32 (a:Int) (((2 ^ 6 - 1:Nat)):Int),1,r4,r5,r6,r7,4⟩,[1],-1,0)) (by kernel_rfl) (by rw [and63 a ha])))
   (.more (cV (p:=sZ n) (t:=t) (late:=false) (at_set (by simpa using ht) _) (i:=⟨21,4,2,3,0,1,0,-1⟩) (A:=1+a % 64) (c1:=⟨0,(a:Int),((a % 64:Nat):Int),1,1,r5,r6,r7,5⟩) (xs1:=s.xs.set 0 (a1:Int)) (wr:=false) (c2:=⟨0,(a:Int),((a % 64:Nat):Int),1,1,r5,r6,r7,6⟩) (ms:= [2]) (dn:=(-1)) (jF (q:=4) rfl) (by decide) (by decide) (gF 1 (a % 64) rfl rfl (by omega) rfl (by have:=Nat.mod_lt a (show 0<64 by decide);omega) (by simp [dX,sZ])) (qE rfl X1 (by kernel_rfl)) (by kernel_rfl))
   (.last (cV (p:=sZ n) (t:=t) (late:=false) (at_set (by simpa using ht) _) (i:=⟨17,0,2,0,0,1,0,0⟩) (A:=1+a % 64) (c1:=⟨0,(a:Int),((a % 64:Nat):Int),1,1,r5,r6,r7,7⟩) (xs1:=(s.xs.set 0 (a1:Int)).set (1+a % 64) 0) (wr:=true) (c2:=⟨0,(a:Int),((a % 64:Nat):Int),1,1,r5,r6,r7,7⟩) (ms:= []) (dn:=1) (jF (q:=6) rfl) (by decide) (by decide) (gF 1 (a % 64) rfl rfl (by omega) rfl (by have:=Nat.mod_lt a (show 0<64 by decide);omega) (by simp [dX,sZ])) (gG rfl) (by kernel_rfl)) (by decide)))),by decide,
  eN (c2:=⟨0,(a:Int),((a1 % 64:Nat):Int),1,1,r5,r6,r7,11⟩) (at_set (by simpa using ht) _) (Eq.trans (b:=(⟨0,(a:Int),Go.bits .and .u32 (((a:Int)+1) % 4294967296) (((2 ^ 6 - 1:Nat)):Int),1,1,r5,r6,r7,11⟩,[],-1,0)) (by kernel_rfl) (by rw [← ha1,and63 a1 ha2])),
  (.last (cV (p:=sZ n) (t:=t) (late:=false) (at_set (by simpa using ht) _) (i:=⟨17,0,2,3,0,1,0,0⟩) (A:=1+a1 % 64) (c1:=⟨0,(a:Int),((a1 % 64:Nat):Int),1,1,r5,r6,r7,12⟩) (xs1:=((s.xs.set 0 (a1:Int)).set (1+a % 64) 0).set (1+a1 % 64) 1) (wr:=true) (c2:=⟨0,(a:Int),((a1 % 64:Nat):Int),1,1,r5,r6,r7,13⟩) (ms:= [4]) (dn:=2) (jF (q:=11) rfl) (by decide) (by decide) (gF 1 (a1 % 64) rfl rfl (by omega) rfl (by have:=Nat.mod_lt a1 (show 0<64 by decide);omega) (by simp [dX,sZ])) (gG rfl) (by kernel_rfl)) (by decide)),by decide⟩⟩,⟨fun x=>?_,by simp [hl],a1,ha2,?_,?_⟩,by simp⟩
 ·simp only [List.set_set]
  exact eZ (s:=s) hr.z rfl x
 ·rw [bU (by omega),bU (by omega),cP (by omega)]
 ·rw [cP (by simp;omega)]
end Go.Proofs.YtjopodnlffaogaaGreatDoor.Tp
end
