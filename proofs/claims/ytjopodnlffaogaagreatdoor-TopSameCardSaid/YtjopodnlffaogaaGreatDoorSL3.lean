/- A part of the proof of TopSame: TpARight, TpCode, TpQSpec0, TpExec, TpAll, TpAbs22. -/
import Derived.Test.YtjopodnlffaogaaGreatDoorSIRight
import Derived.Test.YtjopodnlffaogaaGreatDoorSOneA
import Derived.Test.YtjopodnlffaogaaGreatDoorSOneB
import Derived.Test.YtjopodnlffaogaaGreatDoorSOneC
import Derived.Test.YtjopodnlffaogaaGreatDoorSOneD
import Derived.Test.YtjopodnlffaogaaGreatDoorSOneE
import Derived.Test.YtjopodnlffaogaaGreatDoorSSpecAnderson
set_option linter.unusedVariables false
set_option linter.unusedSimpArgs false
set_option maxRecDepth 100000
set_option maxHeartbeats 4000000
section
namespace Go.Proofs.YtjopodnlffaogaaGreatDoor.Tp
open Go.RowKit Go.Proofs.YtjopodnlffaogaaGreatDoorW.PrintWords Go.Proofs.YtjopodnlffaogaaGreatDoorW.PrintLast Go.Proofs.YtjopodnlffaogaaGreatDoorW.PrintMore
attribute [local go_sem] aU aQ aY aX aI aJ aT aN
theorem V6 {w:World} {A:Option Addr} {n:Nat} {xs:List dA} (h:Kd.C e9 w A n xs) (i:Nat) (h1:i<n):∃ ad,A=some ad∧w.cell? (ad.add (i*8))=some (.int .i64 (xs.getD i eQ).op)∧w.cell? ⟨(ad.add (i*8)).block,(ad.add (i*8)).off+1,none⟩=some (.int .i64 (xs.getD i eQ).d)∧w.cell? ⟨(ad.add (i*8)).block,(ad.add (i*8)).off+2,none⟩=some (.int .i64 (xs.getD i eQ).s)∧w.cell? ⟨(ad.add (i*8)).block,(ad.add (i*8)).off+3,none⟩=some (.int .i64 (xs.getD i eQ).t)∧w.cell? ⟨(ad.add (i*8)).block,(ad.add (i*8)).off+4,none⟩=some (.int .i64 (xs.getD i eQ).u)∧w.cell? ⟨(ad.add (i*8)).block,(ad.add (i*8)).off+5,none⟩=some (.int .i64 (xs.getD i eQ).a)∧w.cell? ⟨(ad.add (i*8)).block,(ad.add (i*8)).off+6,none⟩=some (.int .u32 (xs.getD i eQ).k)∧w.cell? ⟨(ad.add (i*8)).block,(ad.add (i*8)).off+7,none⟩=some (.int .i64 (xs.getD i eQ).to_):=by
 obtain ⟨ad,c,e,_,hK,hc0⟩:=Kd.L5 h eQ (i:Int) (by omega) (by omega)
 simp only [Int.toNat_natCast] at hK hc0
 have hc:∀ j u,c[j]?=some u→w.cell? (ad.add (i*8+j))=some u:=hc0
 obtain rfl:=sN hK
 exact ⟨ad,e,hc 0 _ rfl,by rw [← dF _ _ 1 (by omega)];exact hc 1 _ rfl,by rw [← dF _ _ 2 (by omega)];exact hc 2 _ rfl,by rw [← dF _ _ 3 (by omega)];exact hc 3 _ rfl,by rw [← dF _ _ 4 (by omega)];exact hc 4 _ rfl,by rw [← dF _ _ 5 (by omega)];exact hc 5 _ rfl,by rw [← dF _ _ 6 (by omega)];exact hc 6 _ rfl,by rw [← dF _ _ 7 (by omega)];exact hc 7 _ rfl⟩
structure iL (n:Int) (i:dA):Prop where
 of_:∃ nm has,inst_of.f i.op=some (nm,has)∧nm.toList.isEmpty=false∧(∀ c∈bytesOf has,xO c)∧has.size≤8∧eB n (bytesOf has) { i with op:=0 } =some true
 k:0≤i.k∧i.k<4294967296
def DZ (c:Int):Bool:= [68,83,84,85,65,75,66,77,79,87,80].contains c
theorem DX {c:Int} (h:DZ c=true):xO c:=by
 simp [DZ] at h
 unfold xO
 omega
def pM (n:Int) (i:dA):Bool:=(match inst_of.f i.op with
 |some (nm,has)=>!nm.toList.isEmpty&&(bytesOf has).all DZ&&decide (has.size≤8)&&(eB n (bytesOf has) { i with op:=0 } ==some true)
 |none=>false)&&decide (0≤i.k)&&decide (i.k<4294967296)
theorem fS {n:Int} {i:dA} (h:pM n i=true):iL n i:=by
 unfold pM at h
 simp only [Bool.and_eq_true,decide_eq_true_eq] at h
 obtain ⟨⟨h1,h2⟩,h3⟩:=h
 refine ⟨?_,h2,h3⟩
 split at h1
 ·rename_i nm has hof
  simp only [Bool.and_eq_true,decide_eq_true_eq,Bool.not_eq_true',beq_iff_eq] at h1
  obtain ⟨⟨⟨a1,a2⟩,a3⟩,a4⟩:=h1
  exact ⟨nm,has,hof,a1,fun c hc=>DX (List.all_eq_true.1 a2 c hc),a3,a4⟩
 ·cases h1
theorem IC {n:Int} {i:dA} (h:iL n i) (w:World):Calls Tryz.prog 176 #[.agg (EP i),.int .i64 n] w fun e w'=>e= .returned (.bool true)∧Below w.heap.size w w':=by
 obtain ⟨nm,has,h1,h2,h3,h4,h5⟩:=h.of_
 exact B7 i n nm has true w h1 h2 h3 h4 h.k.1 h.k.2 h5
theorem yV {n:Int} {i:dA} (h:iL n i) (b:Nat) (w:World) (hb:w.heap[b]?=some (.cells #[.int .i64 n] 3 (0,0))):Calls Tryz.prog 175 #[.agg (EP i),.pointer (some ⟨b,0,none⟩)] w fun e w'=>e= .returned (.bool false)∧Below w.heap.size w w':=by
 have P:=aA.mk (fun W=>IC h W)
 have c0:=(aC hb 0).trans rfl
 have z:b<w.heap.size:=aZ hb
 clear h hb
 obtain ⟨op,d,s,t,u,a,k,z_⟩:=i
 show Calls Tryz.prog 175 #[.agg #[.int .i64 op,.int .i64 d,.int .i64 s,.int .i64 t,.int .i64 u,.int .i64 a,.int .u32 k,.int .i64 z_],.pointer (some ⟨b,0,none⟩)] w _
 go_enter Tryz.func175,Tryz.ntmps175
 go_wp2_with (go_at_call 176;refine (P.out _).mono ?_;rintro e w1 ⟨rfl,hb⟩;have HB:=aA.mk hb;clear hb)
 go_ret
 exact ⟨rfl,bA (aD (Below.refl _ _) _) HB.out⟩
theorem zE (A:Option Addr) (c:Nat) (l:List dA) (n:Int) (b:Nat) (w:World) (hC:Kd.C e9 w A l.length l) (hb:w.heap[b]?=some (.cells #[.int .i64 n] 3 (0,0))) (hg:∀ i∈l,iL n i) (hl:l.length≤64):
  Calls Tryz.prog 208 #[.slice A l.length c,.func (.func 175) #[] #[.pointer (some ⟨b,0,none⟩)]] w fun e w'=>e= .returned (.int .i64 (-1))∧Below w.heap.size w w':=by
 have HC:=aA.mk hC
 have HBb:=aA.mk hb
 have HG:=aA.mk hg
 clear hC hb hg
 go_enter Tryz.func208,Tryz.ntmps208
 go_wp2
 go_loopw [8] (fun v wr=>∃ k:Nat,k≤l.length∧v= .int .i64 k∧aA (Below w.heap.size w wr)) (fun v _=>l.length - (intOf v).toNat)
 case atStart=>exact ⟨0,Nat.zero_le _,rfl,⟨Below.refl _ _⟩⟩
 case round=>
  obtain ⟨k,hk,rfl,HB⟩:=hrel
  by_cases hlt:k<l.length
  ·have hT:decide ((k:Int)<(l.length:Int))=true:=decide_eq_true (by omega)
   have h1:(k:Int)<(l.length:Int):=by omega
   obtain ⟨ad,rfl,x0,x1,x2,x3,x4,x5,x6,x7⟩:=V6 HC.out k hlt
   replace x0:=(HB.out.cell (World.block_lt_of_cell? w _ x0)).trans x0
   replace x1:=(HB.out.cell (World.block_lt_of_cell? w _ x1)).trans x1
   replace x2:=(HB.out.cell (World.block_lt_of_cell? w _ x2)).trans x2
   replace x3:=(HB.out.cell (World.block_lt_of_cell? w _ x3)).trans x3
   replace x4:=(HB.out.cell (World.block_lt_of_cell? w _ x4)).trans x4
   replace x5:=(HB.out.cell (World.block_lt_of_cell? w _ x5)).trans x5
   replace x6:=(HB.out.cell (World.block_lt_of_cell? w _ x6)).trans x6
   replace x7:=(HB.out.cell (World.block_lt_of_cell? w _ x7)).trans x7
   have hgi:=HG.out (l.getD k eQ) (by rw [List.getD_eq_getElem?_getD,List.getElem?_eq_getElem hlt];exact List.getElem_mem _)
   generalize l.getD k eQ=i at x0 x1 x2 x3 x4 x5 x6 x7 hgi
   have P:=aA.mk (fun (W:World) (h:W.heap[b]?=some (.cells #[.int .i64 n] 3 (0,0)))=>yV hgi b W h)
   have B0:=aA.mk ((HB.out.block b (aZ HBb.out)).trans HBb.out)
   clear hgi
   go_wp2_with (go_at_call 175;refine (P.out _ B0.out).mono ?_;rintro e w1 ⟨rfl,hb⟩;have HB1:=aA.mk (bA HB.out hb);clear hb)
   go_roundw
   case rel=>exact ⟨k+1,by omega,by go_num,HB1⟩
   case measure=>simp [intOf];omega
  ·have e:k=l.length:=by omega
   subst e
   have hT:decide ((l.length:Int)<(l.length:Int))=false:=decide_eq_false (by omega)
   go_wp2
   go_ret
   exact ⟨rfl,HB.out⟩
theorem kT (A:Option Addr) (c:Nat) (l:List dA) (n:Int) (b:Nat) (w:World) (hC:Kd.C e9 w A l.length l) (hb:w.heap[b]?=some (.cells #[.int .i64 n] 3 (0,0))) (hg:∀ i∈l,iL n i) (hl:l.length≤64):
  Calls Tryz.prog 174 #[.slice A l.length c,.func (.func 175) #[] #[.pointer (some ⟨b,0,none⟩)]] w fun e w'=>e= .returned (.bool false)∧Below w.heap.size w w':=by
 have P:=aA.mk (zE A c l n b w hC hb hg hl)
 clear hC hb hg hl
 go_enter Tryz.func174,Tryz.ntmps174
 go_wp2_with (go_at_call 208;refine P.out.mono ?_;rintro e w1 ⟨rfl,hb⟩;have HB1:=aA.mk hb;clear hb)
 go_ret
 exact ⟨rfl,HB1.out⟩
theorem NF (A:Option Addr) (c:Nat) (l:List dA) (lo un:Int) (w:World) (hC:Kd.C e9 w A l.length l) (hg:∀ i∈l,iL l.length i) (h0:1≤l.length) (h1:l.length≤64) (l0:0≤lo) (l1:lo<l.length) (u0:0≤un) (u1:un<l.length) (hle:lo<un):
  Calls Tryz.prog 115 #[.agg #[.slice A l.length c,.int .i64 lo,.int .i64 un]] w fun e w'=>e= .returned (.bool true)∧Below w.heap.size w w':=by
 have P:=aA.mk (fun (W:World) (b:Nat) (hb:W.heap[b]?=some (.cells #[.int .i64 (l.length:Int)] 3 (0,0))) (hC:Kd.C e9 W A l.length l)=>kT A c l l.length b W hC hb hg h1)
 have HC:=aA.mk hC
 have e0:decide ((l.length:Int)<1)=false:=decide_eq_false (by omega)
 have e1:decide (64<(l.length:Int))=false:=decide_eq_false (by omega)
 have e2:decide (un<0)=false:=decide_eq_false (by omega)
 have e3:decide ((l.length:Int)≤lo)=false:=decide_eq_false (by omega)
 have e4:decide (lo<0)=false:=decide_eq_false (by omega)
 have e5:decide ((l.length:Int)≤un)=false:=decide_eq_false (by omega)
 have B1:=aA.mk (show ((w.alloc (.cells #[.slice A l.length c,.int .i64 lo,.int .i64 un] 112)).alloc (.cells #[.int .i64 (l.length:Int)] 3)).heap[w.heap.size+1]?=some (.cells #[.int .i64 (l.length:Int)] 3 (0,0)) from by
  have:=bF (w.alloc (.cells #[.slice A l.length c,.int .i64 lo,.int .i64 un] 112)) (.cells #[.int .i64 (l.length:Int)] 3)
  simpa using this)
 have q1:lo<un:=hle
 have q2:¬ un<lo:=by omega
 have hmf:∀ (fn:Fn) (first cap:Array Value) (W:World),(Instr.makeFunc fn first cap).run Tryz.prog W= .ok (.func fn first cap) W:=fun _ _ _ _=>rfl
 clear hC hg h0 h1 l0 l1 u0 u1 hle
 go_enter Tryz.func115,Tryz.ntmps115
 go_wp2_with (go_at_call 174;refine (P.out _ (w.heap.size+1) B1.out (Kd.dV (Kd.dV HC.out _) _)).mono ?_;rintro e w1 ⟨rfl,hb⟩;have HB1:=aA.mk hb;clear hb)
 go_ret
 exact ⟨rfl,bA (aD (aD (Below.refl _ _) _) _) HB1.out⟩
theorem NN (A:Option Addr) (c:Nat) (l:List dA) (lo un:Int) (w:World) (hC:Kd.C e9 w A l.length l) (hg:∀ i∈l,iL l.length i) (h0:1≤l.length) (h1:l.length≤64) (l0:0≤lo) (l1:lo<l.length) (u0:0≤un) (u1:un<l.length) (hle:un<lo):
  Calls Tryz.prog 115 #[.agg #[.slice A l.length c,.int .i64 lo,.int .i64 un]] w fun e w'=>e= .returned (.bool true)∧Below w.heap.size w w':=by
 have P:=aA.mk (fun (W:World) (b:Nat) (hb:W.heap[b]?=some (.cells #[.int .i64 (l.length:Int)] 3 (0,0))) (hC:Kd.C e9 W A l.length l)=>kT A c l l.length b W hC hb hg h1)
 have HC:=aA.mk hC
 have e0:decide ((l.length:Int)<1)=false:=decide_eq_false (by omega)
 have e1:decide (64<(l.length:Int))=false:=decide_eq_false (by omega)
 have e2:decide (un<0)=false:=decide_eq_false (by omega)
 have e3:decide ((l.length:Int)≤lo)=false:=decide_eq_false (by omega)
 have e4:decide (lo<0)=false:=decide_eq_false (by omega)
 have e5:decide ((l.length:Int)≤un)=false:=decide_eq_false (by omega)
 have B1:=aA.mk (show ((w.alloc (.cells #[.slice A l.length c,.int .i64 lo,.int .i64 un] 112)).alloc (.cells #[.int .i64 (l.length:Int)] 3)).heap[w.heap.size+1]?=some (.cells #[.int .i64 (l.length:Int)] 3 (0,0)) from by
  have:=bF (w.alloc (.cells #[.slice A l.length c,.int .i64 lo,.int .i64 un] 112)) (.cells #[.int .i64 (l.length:Int)] 3)
  simpa using this)
 have q1:¬ lo<un:=by omega
 have q2:un<lo:=hle
 have hmf:∀ (fn:Fn) (first cap:Array Value) (W:World),(Instr.makeFunc fn first cap).run Tryz.prog W= .ok (.func fn first cap) W:=fun _ _ _ _=>rfl
 clear hC hg h0 h1 l0 l1 u0 u1 hle
 go_enter Tryz.func115,Tryz.ntmps115
 go_wp2_with (go_at_call 174;refine (P.out _ (w.heap.size+1) B1.out (Kd.dV (Kd.dV HC.out _) _)).mono ?_;rintro e w1 ⟨rfl,hb⟩;have HB1:=aA.mk hb;clear hb)
 go_ret
 exact ⟨rfl,bA (aD (aD (Below.refl _ _) _) _) HB1.out⟩
theorem O6 (A:Option Addr) (c:Nat) (l:List dA) (lo:Int) (w:World) (hC:Kd.C e9 w A l.length l) (hg:∀ i∈l,iL l.length i) (h0:1≤l.length) (h1:l.length≤64) (l0:0≤lo) (l1:lo<l.length):
  Calls Tryz.prog 115 #[.agg #[.slice A l.length c,.int .i64 lo,.int .i64 lo]] w fun e w'=>e= .returned (.bool true)∧Below w.heap.size w w':=by
 have P:=aA.mk (fun (W:World) (b:Nat) (hb:W.heap[b]?=some (.cells #[.int .i64 (l.length:Int)] 3 (0,0))) (hC:Kd.C e9 W A l.length l)=>kT A c l l.length b W hC hb hg h1)
 have HC:=aA.mk hC
 have e0:decide ((l.length:Int)<1)=false:=decide_eq_false (by omega)
 have e1:decide (64<(l.length:Int))=false:=decide_eq_false (by omega)
 have e2:decide (lo<0)=false:=decide_eq_false (by omega)
 have e3:decide ((l.length:Int)≤lo)=false:=decide_eq_false (by omega)
 have B1:=aA.mk (show ((w.alloc (.cells #[.slice A l.length c,.int .i64 lo,.int .i64 lo] 112)).alloc (.cells #[.int .i64 (l.length:Int)] 3)).heap[w.heap.size+1]?=some (.cells #[.int .i64 (l.length:Int)] 3 (0,0)) from by
  have:=bF (w.alloc (.cells #[.slice A l.length c,.int .i64 lo,.int .i64 lo] 112)) (.cells #[.int .i64 (l.length:Int)] 3)
  simpa using this)
 have hmf:∀ (fn:Fn) (first cap:Array Value) (W:World),(Instr.makeFunc fn first cap).run Tryz.prog W= .ok (.func fn first cap) W:=fun _ _ _ _=>rfl
 clear hC hg h0 h1 l0 l1
 go_enter Tryz.func115,Tryz.ntmps115
 go_wp2_with (go_at_call 174;refine (P.out _ (w.heap.size+1) B1.out (Kd.dV (Kd.dV HC.out _) _)).mono ?_;rintro e w1 ⟨rfl,hb⟩;have HB1:=aA.mk hb;clear hb)
 go_ret
 exact ⟨rfl,bA (aD (aD (Below.refl _ _) _) _) HB1.out⟩
theorem DI (A:Option Addr) (c:Nat) (l:List dA) (lo un:Int) (w:World) (hC:Kd.C e9 w A l.length l) (hg:∀ i∈l,iL l.length i) (h0:1≤l.length) (h1:l.length≤64) (l0:0≤lo) (l1:lo<l.length) (u0:0≤un) (u1:un<l.length):
  Calls Tryz.prog 115 #[.agg #[.slice A l.length c,.int .i64 lo,.int .i64 un]] w fun e w'=>e= .returned (.bool true)∧Below w.heap.size w w':=by
 rcases Int.lt_trichotomy lo un with h|rfl|h
 ·exact NF A c l lo un w hC hg h0 h1 l0 l1 u0 u1 h
 ·exact O6 A c l lo w hC hg h0 h1 l0 l1
 ·exact NN A c l lo un w hC hg h0 h1 l0 l1 u0 u1 h
theorem GS (A:Option Addr) (c:Nat) (l:List dA) (lo un:Int) (w:World) (hC:Kd.C e9 w A l.length l) (hc:l.length≤c) (hn:A=none→l= []) (hl:l.length≤64):
  Calls Tryz.prog 116 #[.agg #[.slice A l.length c,.int .i64 lo,.int .i64 un]] w fun e w'=>∃ v,e= .returned (.agg #[v,.int .i64 lo,.int .i64 un])∧Kd.R e9 214 w' w.heap.size (fun _=>True) v l∧Below w.heap.size w w':=by
 have P:=aA.mk (fun (W:World) (hC:Kd.C e9 W A l.length l)=>vD A c l W hC hc hn (by omega))
 have HC:=aA.mk hC
 clear hC hc hn hl
 go_enter Tryz.func116,Tryz.ntmps116
 go_wp2_with fail
 have B0:=aA.mk (aV (bF w (.cells #[.slice A l.length c,.int .i64 lo,.int .i64 un] 112)) (.cells #[.slice none 0 0,.int .i64 0,.int .i64 0] 112))
 have B1:=aA.mk (show ((w.alloc (.cells #[.slice A l.length c,.int .i64 lo,.int .i64 un] 112)).alloc (.cells #[.slice none 0 0,.int .i64 0,.int .i64 0] 112)).heap[w.heap.size+1]?=some (.cells #[.slice none 0 0,.int .i64 0,.int .i64 0] 112 (0,0)) from by
  have:=bF (w.alloc (.cells #[.slice A l.length c,.int .i64 lo,.int .i64 un] 112)) (.cells #[.slice none 0 0,.int .i64 0,.int .i64 0] 112)
  simpa using this)
 have HC2:=aA.mk (Kd.dV (Kd.dV HC.out (.cells #[.slice A l.length c,.int .i64 lo,.int .i64 un] 112)) (.cells #[.slice none 0 0,.int .i64 0,.int .i64 0] 112))
 have HB:=aA.mk (aD (aD (Below.refl w.heap.size w) (.cells #[.slice A l.length c,.int .i64 lo,.int .i64 un] 112)) (.cells #[.slice none 0 0,.int .i64 0,.int .i64 0] 112))
 clear HC
 generalize (w.alloc (.cells #[.slice A l.length c,.int .i64 lo,.int .i64 un] 112)).alloc (.cells #[.slice none 0 0,.int .i64 0,.int .i64 0] 112)=w1 at B0 B1 HC2 HB ⊢

 refine dB (n:=9) (S:=fun w'=>w'.heap[w.heap.size]?=some (.cells #[.slice A l.length c,.int .i64 lo,.int .i64 un] 112 (0,0))∧w'.heap[w.heap.size+1]?=some (.cells #[.slice none 0 0,.int .i64 0,.int .i64 0] 112 (0,0))) (ds:= [8]) #[false,false,false,false,false,false,false,false,false] (by kernel_rfl) rfl rfl ⟨B0.out,B1.out⟩ (fun hHeld=>?_)
 replace B0:=aA.mk (drew_ B0.out)
 replace B1:=aA.mk (drew_ B1.out)
 replace HC2:=aA.mk (Kd.DL HC2.out)
 replace HB:=aA.mk (bG HB.out)
 generalize w1.drew=w2 at B0 B1 HC2 HB hHeld ⊢
 refine pur_ 0 3 ?_
 refine pur_ 3 6 ?_
 refine pur_ 5 8 ?_
 refine tak_ 1 4 (.slice A l.length c) ?_ hHeld ?_
 ·intro w' hS
  have c0:=(aC hS.1 0).trans rfl
  clear hHeld hS
  go_simp
 refine tak_ 4 7 (.int .i64 lo) ?_ hHeld ?_
 ·intro w' hS
  have c1:=(aC hS.1 1).trans rfl
  clear hHeld hS
  go_simp
 refine tak_ 6 9 (.int .i64 un) ?_ hHeld ?_
 ·intro w' hS
  have c2:=(aC hS.1 2).trans rfl
  clear hHeld hS
  go_simp
 refine on_ 2 5 (fun K hK=>?_)
 refine goe_ Tryz.func177 #[.slice A l.length c] ?_
 refine (P.out _ HC2.out).mono ?_
 rintro e w9 ⟨v,rfl,hR,hb⟩
 have HR:=aA.mk hR
 have HW:=aA.mk HB.out.size
 obtain ⟨A1,c1,hv,_,_⟩:=Kd.bY hR
 clear hR
 subst hv
 refine ⟨_,rfl,?_⟩
 replace B0:=aA.mk (aE B0.out hb)
 replace B1:=aA.mk (aE B1.out hb)
 replace HC2:=aA.mk (Kd.cH HC2.out hb)
 replace HB:=aA.mk (bA HB.out hb)
 clear hb hHeld
 refine hK.out _ _ ⟨B0.out,B1.out⟩ (fun hHeld=>?_)
 clear hK K
 refine nor_ ?_
 refine pur_ 7 10 ?_
 refine fX (i:=8) (N:=none) #[true,true,true,true,true,true,true,true,true] rfl rfl (by kernel_rfl) (by decide) (fun K hK=>?_)
 rw [if_pos (by rfl)]
 refine wp_store_row 112 (.tmp 2) (.tmp 10) rfl (w.heap.size+1) #[.slice A1 l.length c1,.int .i64 lo,.int .i64 un] rfl rfl 112 _ B1.out (by kernel_rfl) rfl (by kernel_rfl) ?_
 have n1:=aA.mk (setRow_heap w9 (w.heap.size+1) _ #[.slice A1 l.length c1,.int .i64 lo,.int .i64 un] 112 (0,0) B1.out)
 have nR:=aA.mk (show Kd.R e9 214 (w9.setRow (w.heap.size+1) #[.slice A1 l.length c1,.int .i64 lo,.int .i64 un]) w2.heap.size (fun _=>True) (.slice A1 l.length c1) l from Kd.fB (Kd.eD (Kd.eW HR.out) (fun k hk _=>setRow_other w9 (w.heap.size+1) k _ (by rintro rfl;obtain ⟨_,_,_,q,hq,cells,hc⟩:=hk;rw [B1.out] at hc;cases hc;exact absurd hq (by decide)))) (fun _ hk=>hk.1))
 have nB:=aA.mk (below_setRow HB.out (show w.heap.size≤w.heap.size+1 by omega) #[.slice A1 l.length c1,.int .i64 lo,.int .i64 un])
 clear B0 B1 HC2 HB hHeld HR
 generalize w9.setRow (w.heap.size+1) #[.slice A1 l.length c1,.int .i64 lo,.int .i64 un]=w3 at n1 nR nB ⊢
 refine hK.out _ _ ?_
 clear hK K
 refine nJ (a':=?_) ?_ ?_
 rotate_left
 ·show Act.put _ (none) _=_
  simp only [Act.put,List.setIfInBounds_toArray,List.set_cons_zero,List.set_cons_succ,GD,EW]
  rfl
 refine eO (by kernel_rfl) ?_
 have c0:=(aC n1.out 0).trans rfl
 have c1':=(aC n1.out 1).trans rfl
 have c2:=(aC n1.out 2).trans rfl
 go_wp2_with fail
 exact bodyPost_ret (v:= .agg #[.slice A1 l.length c1,.int .i64 lo,.int .i64 un]) (by simp [results,Tryz.results116,go_sem, *]) rfl ⟨_,rfl,Kd.cT nR.out HW.out,nB.out⟩
def gW:List dA:= [⟨20,1,0,0,0,0,1,0⟩,⟨12,0,0,0,0,0,1,0⟩,⟨21,2,0,1,0,1,0,-1⟩,⟨12,0,0,0,0,0,2,0⟩,⟨13,0,0,0,0,0,1,0⟩,⟨3,1,1,0,0,0,1,0⟩,⟨17,0,0,1,0,1,0,0⟩,⟨12,0,0,0,0,0,4,0⟩,⟨13,0,0,0,0,0,2,0⟩]
theorem DY:∀ i∈gW,iL 9 i:=by
 have h:gW.all (pM 9)=true:=by kernel_rfl
 exact fun i hi=>fS (List.all_eq_true.1 h i hi)
def fI:List dA:= [⟨11,1,0,0,0,0,0,0⟩,⟨16,2,1,0,0,1,0,0⟩,⟨5,3,1,0,0,0,1,0⟩,⟨7,3,3,2,0,0,0,0⟩,⟨18,4,0,3,0,0,0,0⟩,⟨12,0,0,0,0,0,1,0⟩,⟨4,5,4,0,0,0,1,0⟩,⟨6,6,4,0,0,0,1,0⟩,⟨21,4,6,5,0,1,1,-1⟩,⟨12,0,0,0,0,0,2,0⟩,⟨13,0,0,0,0,0,1,0⟩,⟨1,3,0,0,0,0,1,0⟩,⟨8,0,2,0,0,0,0,14⟩,⟨1,3,0,0,0,0,0,0⟩,⟨17,0,1,3,0,1,0,0⟩,⟨12,0,0,0,0,0,4,0⟩,⟨13,0,0,0,0,0,2,0⟩]
theorem yD:∀ i∈fI,iL 17 i:=by
 have h:fI.all (pM 17)=true:=by kernel_rfl
 exact fun i hi=>fS (List.all_eq_true.1 h i hi)
def tZ:List dA:= [⟨1,1,0,0,0,0,1,0⟩,⟨17,0,7,1,0,1,0,0⟩,⟨18,6,0,7,0,0,0,0⟩,⟨12,0,0,0,0,0,1,0⟩,⟨21,1,6,0,0,1,0,-1⟩,⟨12,0,0,0,0,0,2,0⟩,⟨13,0,0,0,0,0,1,0⟩,⟨17,0,7,0,0,1,0,0⟩,⟨12,0,0,0,0,0,4,0⟩,⟨2,7,6,0,0,0,0,0⟩,⟨13,0,0,0,0,0,2,0⟩]
theorem O5:∀ i∈tZ,iL 11 i:=by
 have h:tZ.all (pM 11)=true:=by kernel_rfl
 exact fun i hi=>fS (List.all_eq_true.1 h i hi)
def tQ:List dA:= [⟨11,1,0,0,0,0,0,0⟩,⟨3,2,1,0,0,0,1,0⟩,⟨17,0,1,0,0,1,0,0⟩,⟨1,3,0,0,0,0,1,0⟩,⟨17,0,1,3,0,2,0,0⟩,⟨18,4,0,2,0,0,0,0⟩,⟨12,0,0,0,0,0,1,0⟩,⟨8,0,4,0,0,0,0,11⟩,⟨3,4,4,0,0,0,4294967295,0⟩,⟨17,0,4,2,0,1,0,0⟩,⟨21,5,1,0,0,2,0,-1⟩,⟨12,0,0,0,0,0,2,0⟩,⟨13,0,0,0,0,0,1,0⟩,⟨16,4,1,0,0,1,0,0⟩,⟨9,0,4,0,0,0,0,20⟩,⟨19,5,0,2,0,0,0,0⟩,⟨8,0,5,0,0,0,0,19⟩,⟨12,0,0,0,0,0,4,0⟩,⟨13,0,0,0,0,0,2,0⟩,⟨21,4,1,0,0,1,1,-1⟩,⟨3,4,4,0,0,0,4294967295,0⟩,⟨17,0,4,0,0,2,0,0⟩,⟨12,0,0,0,0,0,4,0⟩,⟨13,0,0,0,0,0,2,0⟩]
theorem MG:∀ i∈tQ,iL 24 i:=by
 have h:tQ.all (pM 24)=true:=by kernel_rfl
 exact fun i hi=>fS (List.all_eq_true.1 h i hi)
def uE:List dA:= [⟨11,1,0,0,0,0,0,0⟩,⟨3,2,1,0,0,0,2,0⟩,⟨1,3,0,0,0,0,1,0⟩,⟨16,4,0,0,0,0,0,0⟩,⟨9,0,4,0,0,0,0,10⟩,⟨19,5,0,0,3,0,0,0⟩,⟨8,0,5,0,0,0,0,3⟩,⟨12,0,0,0,0,0,1,0⟩,⟨12,0,0,0,0,0,2,0⟩,⟨13,0,0,0,0,0,1,0⟩,⟨17,0,1,0,0,2,0,0⟩,⟨17,0,1,3,0,3,0,0⟩,⟨19,5,0,4,2,0,0,0⟩,⟨8,0,5,0,0,0,0,3⟩,⟨12,0,0,0,0,0,1,0⟩,⟨8,0,4,3,0,0,0,19⟩,⟨3,4,4,0,0,0,4294967294,0⟩,⟨17,0,4,2,0,2,0,0⟩,⟨10,0,0,0,0,0,0,20⟩,⟨17,0,0,2,0,1,0,0⟩,⟨21,5,1,0,0,3,0,-1⟩,⟨12,0,0,0,0,0,2,0⟩,⟨16,4,1,0,0,2,0,0⟩,⟨9,0,4,0,0,0,0,28⟩,⟨17,0,0,0,0,1,0,0⟩,⟨19,5,0,2,3,0,0,0⟩,⟨9,0,5,0,0,0,0,29⟩,⟨21,4,1,0,0,2,1,-1⟩,⟨17,0,0,4,0,1,0,0⟩,⟨13,0,0,0,0,0,1,0⟩,⟨16,4,0,0,0,1,0,0⟩,⟨9,0,4,0,0,0,0,38⟩,⟨1,3,0,0,0,0,1,0⟩,⟨19,5,0,3,0,0,0,0⟩,⟨8,0,5,0,0,0,0,37⟩,⟨12,0,0,0,0,0,4,0⟩,⟨13,0,0,0,0,0,2,0⟩,⟨21,4,0,0,0,1,1,-1⟩,⟨3,4,4,0,0,0,4294967294,0⟩,⟨17,0,4,0,0,3,0,0⟩,⟨12,0,0,0,0,0,4,0⟩,⟨13,0,0,0,0,0,2,0⟩]
theorem PX:∀ i∈uE,iL 42 i:=by
 have h:uE.all (pM 42)=true:=by kernel_rfl
 exact fun i hi=>fS (List.all_eq_true.1 h i hi)
def gR:List dA:= [⟨22,7,0,0,0,0,0,0⟩,⟨8,0,7,0,0,0,0,23⟩,⟨17,0,7,0,0,1,0,0⟩,⟨18,6,0,7,0,0,0,0⟩,⟨12,0,0,0,0,0,1,0⟩,⟨1,1,0,0,0,0,1,0⟩,⟨21,2,6,0,0,1,1,14⟩,⟨8,0,2,1,0,0,0,11⟩,⟨23,0,6,0,0,0,0,0⟩,⟨3,6,2,0,0,0,4294967294,0⟩,⟨10,0,0,0,0,0,0,5⟩,⟨12,0,0,0,0,0,2,0⟩,⟨23,0,6,0,0,0,0,0⟩,⟨13,0,0,0,0,0,1,0⟩,⟨19,3,0,7,6,0,0,0⟩,⟨8,0,3,0,0,0,0,19⟩,⟨12,0,0,0,0,0,3,0⟩,⟨23,0,7,0,0,0,0,0⟩,⟨13,0,0,0,0,0,0,0⟩,⟨3,3,6,0,0,0,2,0⟩,⟨17,0,7,3,0,1,0,0⟩,⟨12,0,0,0,0,0,3,0⟩,⟨13,0,0,0,0,0,0,0⟩,⟨13,0,0,0,0,0,3,0⟩,⟨1,1,0,0,0,0,1,0⟩,⟨17,0,7,1,0,1,0,0⟩,⟨12,0,0,0,0,0,4,0⟩,⟨13,0,0,0,0,0,2,0⟩]
theorem CP:∀ i∈gR,iL 28 i:=by
 have h:gR.all (pM 28)=true:=by kernel_rfl
 exact fun i hi=>fS (List.all_eq_true.1 h i hi)
def gV:List dA:= [⟨22,7,0,0,0,0,0,0⟩,⟨8,0,7,0,0,0,0,17⟩,⟨17,0,7,0,0,1,0,0⟩,⟨17,0,7,0,0,2,0,0⟩,⟨18,6,0,7,0,0,0,0⟩,⟨12,0,0,0,0,0,1,0⟩,⟨8,0,6,0,0,0,0,10⟩,⟨17,0,6,7,0,1,0,0⟩,⟨1,1,0,0,0,0,1,0⟩,⟨21,2,7,1,0,2,0,12⟩,⟨12,0,0,0,0,0,2,0⟩,⟨13,0,0,0,0,0,1,0⟩,⟨1,3,0,0,0,0,2,0⟩,⟨19,4,7,0,3,2,0,0⟩,⟨8,0,4,0,0,0,0,10⟩,⟨12,0,0,0,0,0,3,0⟩,⟨13,0,0,0,0,0,0,0⟩,⟨13,0,0,0,0,0,3,0⟩,⟨16,6,7,0,0,1,0,0⟩,⟨9,0,6,0,0,0,0,26⟩,⟨19,4,0,7,0,0,0,0⟩,⟨8,0,4,0,0,0,0,25⟩,⟨12,0,0,0,0,0,4,0⟩,⟨23,0,7,0,0,0,0,0⟩,⟨13,0,0,0,0,0,2,0⟩,⟨21,6,7,0,0,1,1,-1⟩,⟨1,1,0,0,0,0,1,0⟩,⟨19,4,6,0,1,2,0,0⟩,⟨8,0,4,0,0,0,0,32⟩,⟨12,0,0,0,0,0,4,0⟩,⟨23,0,7,0,0,0,0,0⟩,⟨13,0,0,0,0,0,2,0⟩,⟨23,0,7,0,0,0,0,0⟩,⟨2,7,6,0,0,0,0,0⟩,⟨10,0,0,0,0,0,0,18⟩]
theorem DO:∀ i∈gV,iL 35 i:=by
 have h:gV.all (pM 35)=true:=by kernel_rfl
 exact fun i hi=>fS (List.all_eq_true.1 h i hi)
def bT (j:Nat):List dA:= [⟨20,1,0,0,0,0,1,0⟩,⟨12,0,0,0,0,0,1,0⟩,⟨4,2,1,0,0,0,((2 ^ j - 1:Nat):Int),0⟩,⟨1,3,0,0,0,0,1,0⟩,⟨21,4,2,3,0,1,0,-1⟩,⟨12,0,0,0,0,0,2,0⟩,⟨17,0,2,0,0,1,0,0⟩,⟨13,0,0,0,0,0,1,0⟩,⟨3,2,1,0,0,0,1,0⟩,⟨4,2,2,0,0,0,((2 ^ j - 1:Nat):Int),0⟩,⟨1,3,0,0,0,0,1,0⟩,⟨17,0,2,3,0,1,0,0⟩,⟨12,0,0,0,0,0,4,0⟩,⟨13,0,0,0,0,0,2,0⟩]
theorem wZ (j:Nat) (hj:j≤6):∀ i∈bT j,iL 14 i:=by
 have h:(bT j).all (pM 14)=true:=by
  rcases (by omega:j=0∨j=1∨j=2∨j=3∨j=4∨j=5∨j=6) with rfl|rfl|rfl|rfl|rfl|rfl|rfl <;> kernel_rfl
 exact fun i hi=>fS (List.all_eq_true.1 h i hi)
structure NH where
 kind:Int
 threads:Int
 slots:Int
 each:Int
 spin:Int
 start:Int
def NH.cells (c:NH):Array Value:=#[.int .i64 c.kind,.int .i64 c.threads,.int .i64 c.slots,.int .i64 c.each,.int .i64 c.spin,.int .u32 c.start]
structure dU where
 l:List dA
 lo:Int
 un:Int
 szs:List Int
 xs:List Int
 m:Nat
 r7:List Int
def dU.Is (p:dU) (B:Nat) (w:World) (v:Value):Prop:=cQ B w v p.l p.lo p.un p.szs p.xs p.m p.r7
structure iN:Prop where
 ticket:dZ kS gW 0 5
 graunke:dZ jL fI 0 11
 clh:dZ qW tZ 0 7
 mcs:dZ lJ tQ 0 13
 k42:dZ mU uE 0 30
 clhtry:dZ gY gR 0 24
 mcstry:dZ gZ gV 0 18
 anderson:∀ j:Nat,j≤6→∃ txt,dZ txt (bT j) 0 8∧mR 161 #[.int .i64 ((2 ^ j:Nat):Int)] txt
inductive eA:NH→dU→Prop
 |ticket (n s:Nat) (sl ea sp:Int) (n1:1≤n) (n64:n≤64):eA ⟨1,n,sl,ea,sp,s⟩ ⟨gW,0,5,[1,1],[(s:Int),(s:Int)],0,List.replicate n 0⟩
 |anderson (n j s:Nat) (ea sp:Int) (n1:1≤n) (n64:n≤64) (hj:j≤6) (hnt:n≤2 ^ j) (hs:s<4294967296):eA ⟨2,n,((2 ^ j:Nat):Int),ea,sp,s⟩ ⟨bT j,0,8,[1,((2 ^ j:Nat):Int)],((List.replicate (2 ^ j+1) 0).set 0 (s:Int)).set (1+s % 2 ^ j) 1,0,List.replicate n 0⟩
 |graunke (n:Nat) (sl ea sp s:Int) (n1:1≤n) (n64:n≤64):eA ⟨3,n,sl,ea,sp,s⟩ ⟨fI,0,11,[1,((n+1:Nat):Int)],((List.replicate (n+2) 0).set 0 (2*(n:Int))).set (n+1) 1,0,List.replicate n 0⟩
 |clh (n:Nat) (sl ea sp s:Int) (n1:1≤n) (n64:n≤64):eA ⟨4,n,sl,ea,sp,s⟩ ⟨tZ,0,7,[1,((n+1:Nat):Int)],List.replicate (n+2) 0,0,nN n⟩
 |mcs (n:Nat) (sl ea sp s:Int) (n1:1≤n) (n64:n≤64):eA ⟨5,n,sl,ea,sp,s⟩ ⟨tQ,0,13,[1,n,n],List.replicate (1+2*n) 0,0,List.replicate n 0⟩
 |k42 (n:Nat) (sl ea sp s:Int) (n1:1≤n) (n64:n≤64):eA ⟨6,n,sl,ea,sp,s⟩ ⟨uE,0,30,[1,1,n,n],List.replicate (2+2*n) 0,0,List.replicate n 0⟩
 |clhtry (n ea:Nat) (sl sp s:Int) (n1:1≤n) (n64:n≤64) (e2:2≤ea) (e8:ea≤8):eA ⟨7,n,sl,ea,sp,s⟩ ⟨gR,0,24,[1,((n*ea+1:Nat):Int)],(List.replicate (n*ea+2) 0).set 1 1,ea,List.replicate n 0⟩
 |mcstry (n ea:Nat) (sl sp s:Int) (n1:1≤n) (n64:n≤64) (e1:1≤ea) (e8:ea≤8):eA ⟨8,n,sl,ea,sp,s⟩ ⟨gV,0,18,[1,((n*ea+1:Nat):Int),((n*ea+1:Nat):Int)],List.replicate (2*n*ea+3) 0,ea,List.replicate n 0⟩
def Since (B gc gk bq:Nat) (rs:List Rg):Prop:=B≤gc∧B≤gk∧B≤bq∧pT B rs
theorem Since.lower {B B' gc gk bq:Nat} {rs:List Rg} (h:Since B gc gk bq rs) (hB:B'≤B):Since B' gc gk bq rs:=⟨Nat.le_trans hB h.1,Nat.le_trans hB h.2.1,Nat.le_trans hB h.2.2.1,h.2.2.2.lower hB⟩
theorem oK {B:Nat} {w w1 w2:World} (h:Below B w w1) (k:Below B w1 w2):Below B w w2:=⟨k.os.trans h.os,k.tape.trans h.tape,k.output.trans h.output,Nat.le_trans h.size k.size,fun i hi=>(k.block i hi).trans (h.block i hi)⟩
theorem zA (AL AS AI AR:Option Addr) (cL cS cI cR:Nat) (l:List dA) (lo un:Int) (szs xs r7:List Int) (m:Nat) (w:World)
  (hL:Kd.C e9 w AL l.length l) (hcL:l.length≤cL) (hnL:AL=none→l= []) (hg:∀ i∈l,iL l.length i) (l1:1≤l.length) (l64:l.length≤64) (lo0:0≤lo) (lo1:lo<l.length) (un0:0≤un) (un1:un<l.length)
  (hS:Kd.C (Kd.int .i64) w AS szs.length szs) (hcS:szs.length≤cS) (hnS:AS=none→szs= []) (hI:Kd.C (Kd.int .u32) w AI xs.length xs) (h8:szs.length≤8) (hr:∀ s∈szs,0≤s∧s≤4096) (hsum:dX szs szs.length=xs.length) (hx:xs.length≤8192)
  (hm:m≤8) (hR:Kd.C (Kd.int .u32) w AR r7.length r7) (n1:1≤r7.length) (n64:r7.length≤64):
  Calls Tryz.prog 51 #[.agg #[.slice AL l.length cL,.int .i64 lo,.int .i64 un,.slice AS szs.length cS,.slice AI xs.length cI,.int .i64 (m:Int),.slice AR r7.length cR],.int .i64 (r7.length:Int)] w fun e w'=>
  ∃ be vl bm bc gc vs vb bp bq vr rs gk,e= .returned (.tuple #[.pointer (some ⟨be,0,none⟩),.int .i64 0])∧Below w.heap.size w w'∧oP w' w.heap.size be vl l lo un bm bc gc vs vb szs xs bp bq m vr rs gk (r7.map cz)∧w'.heap[bq]?=some (.map #[] 0)∧rs.length=r7.length∧eH m rs∧Since w.heap.size gc gk bq rs:=by
 have HL:=aA.mk hL
 have HS:=aA.mk hS
 have HI:=aA.mk hI
 have HR:=aA.mk hR
 have HRW:=aA.mk hR
 have KP:=aA.mk (fun W=>yT r7.length m W n1 n64 hm)
 have KM:=aA.mk (fun (W:World) (h1:Kd.C (Kd.int .i64) W AS szs.length szs) (h2:Kd.C (Kd.int .u32) W AI xs.length xs)=>CU AS AI cS cI szs xs W h1 hcS hnS h2 h8 hr hsum hx)
 have KR:=aA.mk (fun (W:World) (h:Kd.C e9 W AL l.length l)=>DI AL cL l lo un W h hg l1 l64 lo0 lo1 un0 un1)
 have KC:=aA.mk (fun (W:World) (h:Kd.C e9 W AL l.length l)=>GS AL cL l lo un W h hcL hnL l64)
 have N64:=aA.mk n64
 have MK:=aA.mk (fun W:World=>(show (Instr.makeSlice 147 (.int .i64 (r7.length:Int)) (.int .i64 (r7.length:Int))).run Tryz.prog W= .ok (.slice (some ⟨W.heap.size,0,none⟩) r7.length r7.length) (W.alloc (.cells (bD ((over r7 0).map cz)) 192)) from by rw [← IV,← JT];exact sI (P:=Tryz.prog) 147 192 (Value.agg #[.int .u32 0,.int .u32 0,.int .u32 0,.int .u32 0,.int .u32 0,.int .u32 0,.int .u32 0,.int .u32 0,.int .i64 0]) 9 40 (by kernel_rfl) (by kernel_rfl) (by decide) r7.length (by omega) W))
 clear hL hS hI hR hg hr hsum hcL hnL hcS hnS h8 hx hm l1 l64 lo0 lo1 un0 un1 n1
 go_enter Tryz.func51,Tryz.ntmps51

 go_wp2_with fail
 have B0:=aA.mk (bF w (.cells #[.slice AL l.length cL,.int .i64 lo,.int .i64 un,.slice AS szs.length cS,.slice AI xs.length cI,.int .i64 (m:Int),.slice AR r7.length cR] 114))
 have HL1:=aA.mk (Kd.dV HL.out (.cells #[.slice AL l.length cL,.int .i64 lo,.int .i64 un,.slice AS szs.length cS,.slice AI xs.length cI,.int .i64 (m:Int),.slice AR r7.length cR] 114))
 have HS1:=aA.mk (Kd.dV HS.out (.cells #[.slice AL l.length cL,.int .i64 lo,.int .i64 un,.slice AS szs.length cS,.slice AI xs.length cI,.int .i64 (m:Int),.slice AR r7.length cR] 114))
 have HI1:=aA.mk (Kd.dV HI.out (.cells #[.slice AL l.length cL,.int .i64 lo,.int .i64 un,.slice AS szs.length cS,.slice AI xs.length cI,.int .i64 (m:Int),.slice AR r7.length cR] 114))
 have HR1:=aA.mk (Kd.dV HR.out (.cells #[.slice AL l.length cL,.int .i64 lo,.int .i64 un,.slice AS szs.length cS,.slice AI xs.length cI,.int .i64 (m:Int),.slice AR r7.length cR] 114))
 have HB1:=aA.mk (aD (Below.refl w.heap.size w) (.cells #[.slice AL l.length cL,.int .i64 lo,.int .i64 un,.slice AS szs.length cS,.slice AI xs.length cI,.int .i64 (m:Int),.slice AR r7.length cR] 114))
 clear HL HS HI HR
 generalize w.alloc (.cells #[.slice AL l.length cL,.int .i64 lo,.int .i64 un,.slice AS szs.length cS,.slice AI xs.length cI,.int .i64 (m:Int),.slice AR r7.length cR] 114)=w1 at B0 HL1 HS1 HI1 HR1 HB1 ⊢
 refine (KP.out w1).mono ?_
 rintro e w2 ⟨bp,bq,vr,rs,rfl,hb,hp,hq,p0,p1,p2,p3,p4⟩
 have HP2:=aA.mk (hp.lower HB1.out.size)
 have HQ2:=aA.mk hq
 have HQ:=aA.mk (⟨p2,p3,p4.lower HB1.out.size,Nat.le_trans HB1.out.size p1⟩:rs.length=r7.length∧eH m rs∧pT w.heap.size rs∧w.heap.size≤bq)
 have B2:=aA.mk (aE B0.out hb)
 have HL2:=aA.mk (Kd.cH HL1.out hb)
 have HS2:=aA.mk (Kd.cH HS1.out hb)
 have HI2:=aA.mk (Kd.cH HI1.out hb)
 have HR2:=aA.mk (Kd.cH HR1.out hb)
 have HB2:=aA.mk (bA HB1.out hb)
 clear hb hp hq p0 p1 p2 p3 p4 B0 HL1 HS1 HI1 HR1 HB1 KP
 have c3:=(aC B2.out 3).trans rfl
 have c4:=(aC B2.out 4).trans rfl
 go_wp2_with fail
 refine (KM.out w2 HS2.out HI2.out).mono ?_
 rintro e w3 ⟨bm,bc,gc,vs,vb,rfl,hb,hmem,p1,p2,p3⟩
 have HM3:=aA.mk (hmem.lower HB2.out.size)
 have GC:=aA.mk (Nat.le_trans HB2.out.size p3)
 have HP3:=aA.mk (HP2.out.below hb)
 have HQ3:=aA.mk (aE HQ2.out hb)
 have B3:=aA.mk (aE B2.out hb)
 have HL3:=aA.mk (Kd.cH HL2.out hb)
 have HR3:=aA.mk (Kd.cH HR2.out hb)
 have HB3:=aA.mk (bA HB2.out hb)
 clear hb hmem p1 p2 p3 B2 HL2 HS2 HI2 HR2 HB2 HP2 HQ2 KM c3 c4
 have c0:=(aC B3.out 0).trans rfl
 have c1:=(aC B3.out 1).trans rfl
 have c2:=(aC B3.out 2).trans rfl
 have c6:=(aC B3.out 6).trans rfl
 have e0:(r7.length != r7.length)=false:=by simp
 have e1:((r7.length:Int) != (r7.length:Int))=false:=by simp
 go_wp2_with (go_at_call 115;refine (KR.out w3 HL3.out).mono ?_;rintro e w4 ⟨rfl,hb⟩;have HM4:=aA.mk (HM3.out.below hb);have HP4:=aA.mk (HP3.out.below hb);have HQ4:=aA.mk (aE HQ3.out hb);have B4:=aA.mk (aE B3.out hb);have HL4:=aA.mk (Kd.cH HL3.out hb);have HR4:=aA.mk (Kd.cH HR3.out hb);have HB4:=aA.mk (bA HB3.out hb);clear hb B3 HL3 HR3 HB3 HP3 HQ3 HM3 KR c0 c1 c2 c6;have c6:=(aC B4.out 6).trans rfl)

 clear c6 e0 e1
 refine dB (n:=10) (S:=fun w'=>w'.heap[w.heap.size]?=some (.cells #[.slice AL l.length cL,.int .i64 lo,.int .i64 un,.slice AS szs.length cS,.slice AI xs.length cI,.int .i64 (m:Int),.slice AR r7.length cR] 114 (0,0))) (ds:= []) #[false,false,false,false,false,false,false,false,false,false] (by kernel_rfl) rfl rfl B4.out (fun hHeld=>?_)
 replace B4:=aA.mk (drew_ B4.out)
 replace HM4:=aA.mk (HM4.out.below (bG (Below.refl _ _)))
 replace HP4:=aA.mk (HP4.out.below (bG (Below.refl _ _)))
 replace HQ4:=aA.mk (drew_ HQ4.out)
 replace HL4:=aA.mk (Kd.DL HL4.out)
 replace HR4:=aA.mk (Kd.DL HR4.out)
 replace HB4:=aA.mk (bG HB4.out)
 generalize w4.drew=w5 at B4 HM4 HP4 HQ4 HL4 HR4 HB4 hHeld ⊢
 refine pur_ 0 47 ?_
 refine pur_ 3 50 ?_
 refine pur_ 4 51 ?_
 refine pur_ 5 52 ?_
 refine tak_ 1 48 (.agg #[.slice AL l.length cL,.int .i64 lo,.int .i64 un]) ?_ hHeld ?_
 ·intro w' hS
  have c0:=(aC hS 0).trans rfl
  have c1:=(aC hS 1).trans rfl
  have c2:=(aC hS 2).trans rfl
  clear hHeld hS
  go_simp
 refine RA (σ:=Option Addr × Nat × Nat) 3 #[true,true,true,true,true,true,true,false,false,false] (fun z=> [(49,.agg #[.slice z.1 l.length z.2.1,.int .i64 lo,.int .i64 un]),(53,.slice (some ⟨z.2.2,0,none⟩) r7.length r7.length)]) (fun z w'=>w'.heap[w.heap.size]?=some (.cells #[.slice AL l.length cL,.int .i64 lo,.int .i64 un,.slice AS szs.length cS,.slice AI xs.length cI,.int .i64 (m:Int),.slice AR r7.length cR] 114 (0,0))∧Kd.R e9 214 w' w.heap.size (fun _=>True) (.slice z.1 l.length z.2.1) l∧w'.heap[z.2.2]?=some (.cells (bD ((over r7 0).map cz)) 192 (0,0))∧w.heap.size≤z.2.2∧l6 w' w.heap.size bm bc gc vs vb szs xs∧jY w' w.heap.size bp bq m vr rs∧w'.heap[bq]?=some (.map #[] 0)∧Kd.C (Kd.int .u32) w' AR r7.length r7∧Below w.heap.size w w') ?cont ?orders
 case orders=>
  intro hcont
  refine WS (i:=2) (j:=6) (Ni:=some 49) (Nj:=some 53) #[true,true,true,true,true,true,false,false,false,false] #[true,true,false,true,true,true,true,false,false,false] rfl rfl rfl rfl (by kernel_rfl) (by decide) (by decide) (fun K hK=>?_) (fun K hK=>?_)
  ·
   refine goe_ Tryz.func116 #[.agg #[.slice AL l.length cL,.int .i64 lo,.int .i64 un]] ?_
   refine (KC.out _ HL4.out).mono ?_
   rintro e w9 ⟨v,rfl,hR,hb⟩
   have HV:=aA.mk (Kd.cT hR HB4.out.size)
   clear hR
   obtain ⟨A1,c1,hv,_,_⟩:=Kd.bY HV.out
   subst hv
   refine ⟨_,rfl,?_⟩
   replace B4:=aA.mk (aE B4.out hb)
   replace HM4:=aA.mk (HM4.out.below hb)
   replace HP4:=aA.mk (HP4.out.below hb)
   replace HQ4:=aA.mk (aE HQ4.out hb)
   replace HL4:=aA.mk (Kd.cH HL4.out hb)
   replace HR4:=aA.mk (Kd.cH HR4.out hb)
   replace HB4:=aA.mk (bA HB4.out hb)
   clear hb hHeld
   refine hK.out _ _ B4.out (fun hHeld=>?_)
   clear hK K
   refine nor_ ?_
   refine on_ 6 53 (fun K hK=>?_)
   refine jX (v:= .slice (some ⟨w9.heap.size,0,none⟩) r7.length r7.length) (w1:=w9.alloc (.cells (bD ((over r7 0).map cz)) 192)) (by rfl) rfl (by have hmk:=MK.out w9;go_simp) ?_
   have BK:=aA.mk (bF w9 (.cells (bD ((over r7 0).map cz)) 192))
   have GK:=aA.mk HB4.out.size
   replace B4:=aA.mk (aV B4.out (.cells (bD ((over r7 0).map cz)) 192))
   replace HM4:=aA.mk (HM4.out.below (aD (Below.refl _ _) (.cells (bD ((over r7 0).map cz)) 192)))
   replace HP4:=aA.mk (HP4.out.below (aD (Below.refl _ _) (.cells (bD ((over r7 0).map cz)) 192)))
   replace HQ4:=aA.mk (aV HQ4.out (.cells (bD ((over r7 0).map cz)) 192))
   replace HL4:=aA.mk (Kd.dV HL4.out (.cells (bD ((over r7 0).map cz)) 192))
   replace HR4:=aA.mk (Kd.dV HR4.out (.cells (bD ((over r7 0).map cz)) 192))
   replace HB4:=aA.mk (aD HB4.out (.cells (bD ((over r7 0).map cz)) 192))
   replace HV:=aA.mk (Kd.cO HV.out (.cells (bD ((over r7 0).map cz)) 192))
   clear hHeld
   refine hK.out _ _ B4.out (fun hHeld=>?_)
   clear hK K
   refine nor_ ?_
   generalize w9.alloc (.cells (bD ((over r7 0).map cz)) 192)=wa at B4 HM4 HP4 HQ4 HL4 HR4 HB4 HV BK hHeld ⊢
   generalize w9.heap.size=gk at BK GK ⊢
   refine nJ (a':=_) ?_ (hcont (A1,c1,gk) _ ⟨B4.out,HV.out,BK.out,GK.out,HM4.out,HP4.out,HQ4.out,HR4.out,HB4.out⟩)
   simp only [iX,Act.put,List.setIfInBounds_toArray,List.set_cons_zero,List.set_cons_succ]
   try rfl
  ·
   refine jX (v:= .slice (some ⟨w5.heap.size,0,none⟩) r7.length r7.length) (w1:=w5.alloc (.cells (bD ((over r7 0).map cz)) 192)) (by rfl) rfl (by have hmk:=MK.out w5;go_simp) ?_
   have BK:=aA.mk (bF w5 (.cells (bD ((over r7 0).map cz)) 192))
   have GK:=aA.mk HB4.out.size
   replace B4:=aA.mk (aV B4.out (.cells (bD ((over r7 0).map cz)) 192))
   replace HM4:=aA.mk (HM4.out.below (aD (Below.refl _ _) (.cells (bD ((over r7 0).map cz)) 192)))
   replace HP4:=aA.mk (HP4.out.below (aD (Below.refl _ _) (.cells (bD ((over r7 0).map cz)) 192)))
   replace HQ4:=aA.mk (aV HQ4.out (.cells (bD ((over r7 0).map cz)) 192))
   replace HL4:=aA.mk (Kd.dV HL4.out (.cells (bD ((over r7 0).map cz)) 192))
   replace HR4:=aA.mk (Kd.dV HR4.out (.cells (bD ((over r7 0).map cz)) 192))
   replace HB4:=aA.mk (aD HB4.out (.cells (bD ((over r7 0).map cz)) 192))
   clear hHeld
   refine hK.out _ _ B4.out (fun hHeld=>?_)
   clear hK K
   refine nor_ ?_
   generalize w5.alloc (.cells (bD ((over r7 0).map cz)) 192)=wa at B4 HM4 HP4 HQ4 HL4 HR4 HB4 BK hHeld ⊢
   generalize w5.heap.size=gk at BK GK ⊢
   refine on_ 2 49 (fun K hK=>?_)
   refine goe_ Tryz.func116 #[.agg #[.slice AL l.length cL,.int .i64 lo,.int .i64 un]] ?_
   refine (KC.out _ HL4.out).mono ?_
   rintro e w9 ⟨v,rfl,hR,hb⟩
   have HV:=aA.mk (Kd.cT hR HB4.out.size)
   clear hR
   obtain ⟨A1,c1,hv,_,_⟩:=Kd.bY HV.out
   subst hv
   refine ⟨_,rfl,?_⟩
   replace B4:=aA.mk (aE B4.out hb)
   replace HM4:=aA.mk (HM4.out.below hb)
   replace HP4:=aA.mk (HP4.out.below hb)
   replace HQ4:=aA.mk (aE HQ4.out hb)
   replace HL4:=aA.mk (Kd.cH HL4.out hb)
   replace HR4:=aA.mk (Kd.cH HR4.out hb)
   replace HB4:=aA.mk (bA HB4.out hb)
   replace BK:=aA.mk (aE BK.out hb)
   clear hb hHeld
   refine hK.out _ _ B4.out (fun hHeld=>?_)
   clear hK K
   refine nor_ ?_
   refine nJ (a':=_) ?_ (hcont (A1,c1,gk) _ ⟨B4.out,HV.out,BK.out,GK.out,HM4.out,HP4.out,HQ4.out,HR4.out,HB4.out⟩)
   simp only [iX,Act.put,List.setIfInBounds_toArray,List.set_cons_zero,List.set_cons_succ]
   try rfl
 case cont=>
  clear B4 HM4 HP4 HQ4 HL4 HR4 HB4 KC MK hHeld
  rintro ⟨A1,c1,gk⟩ wf ⟨h0,h1,h2,h3,h4,h5,h6,h7,h8⟩
  dsimp only at h0 h1 h2 h3 h4 h5 h6 h7 h8 ⊢
  have B5:=aA.mk h0
  have HV:=aA.mk h1
  have BK:=aA.mk h2
  have GK:=aA.mk h3
  have HM5:=aA.mk h4
  have HP5:=aA.mk h5
  have HQ5:=aA.mk h6
  have HR5:=aA.mk h7
  have HB5:=aA.mk h8
  clear h0 h1 h2 h3 h4 h5 h6 h7 h8
  refine nJ (a':=?_) ?_ ?_
  rotate_left
  ·simp only [iX,Act.put,List.setIfInBounds_toArray,List.set_cons_zero,List.set_cons_succ]
   rfl
  refine pur_ 7 54 ?_
  refine on_ 8 55 (fun K hK=>?_)
  refine jX (v:= .pointer (some ⟨wf.heap.size,0,none⟩)) (w1:=wf.alloc (.cells #[.slice A1 l.length c1,.int .i64 lo,.int .i64 un,.pointer (some ⟨bm,0,none⟩),.pointer (some ⟨bp,0,none⟩),.slice (some ⟨gk,0,none⟩) r7.length r7.length] 149)) (by rfl) rfl (by kernel_rfl) ?_
  have BE:=aA.mk (bF wf (.cells #[.slice A1 l.length c1,.int .i64 lo,.int .i64 un,.pointer (some ⟨bm,0,none⟩),.pointer (some ⟨bp,0,none⟩),.slice (some ⟨gk,0,none⟩) r7.length r7.length] 149))
  have GE:=aA.mk HB5.out.size
  replace B5:=aA.mk (aV B5.out (.cells #[.slice A1 l.length c1,.int .i64 lo,.int .i64 un,.pointer (some ⟨bm,0,none⟩),.pointer (some ⟨bp,0,none⟩),.slice (some ⟨gk,0,none⟩) r7.length r7.length] 149))
  replace HV:=aA.mk (Kd.cO HV.out (.cells #[.slice A1 l.length c1,.int .i64 lo,.int .i64 un,.pointer (some ⟨bm,0,none⟩),.pointer (some ⟨bp,0,none⟩),.slice (some ⟨gk,0,none⟩) r7.length r7.length] 149))
  replace BK:=aA.mk (aV BK.out (.cells #[.slice A1 l.length c1,.int .i64 lo,.int .i64 un,.pointer (some ⟨bm,0,none⟩),.pointer (some ⟨bp,0,none⟩),.slice (some ⟨gk,0,none⟩) r7.length r7.length] 149))
  replace HM5:=aA.mk (HM5.out.below (aD (Below.refl _ _) (.cells #[.slice A1 l.length c1,.int .i64 lo,.int .i64 un,.pointer (some ⟨bm,0,none⟩),.pointer (some ⟨bp,0,none⟩),.slice (some ⟨gk,0,none⟩) r7.length r7.length] 149)))
  replace HP5:=aA.mk (HP5.out.below (aD (Below.refl _ _) (.cells #[.slice A1 l.length c1,.int .i64 lo,.int .i64 un,.pointer (some ⟨bm,0,none⟩),.pointer (some ⟨bp,0,none⟩),.slice (some ⟨gk,0,none⟩) r7.length r7.length] 149)))
  replace HQ5:=aA.mk (aV HQ5.out (.cells #[.slice A1 l.length c1,.int .i64 lo,.int .i64 un,.pointer (some ⟨bm,0,none⟩),.pointer (some ⟨bp,0,none⟩),.slice (some ⟨gk,0,none⟩) r7.length r7.length] 149))
  replace HR5:=aA.mk (Kd.dV HR5.out (.cells #[.slice A1 l.length c1,.int .i64 lo,.int .i64 un,.pointer (some ⟨bm,0,none⟩),.pointer (some ⟨bp,0,none⟩),.slice (some ⟨gk,0,none⟩) r7.length r7.length] 149))
  replace HB5:=aA.mk (aD HB5.out (.cells #[.slice A1 l.length c1,.int .i64 lo,.int .i64 un,.pointer (some ⟨bm,0,none⟩),.pointer (some ⟨bp,0,none⟩),.slice (some ⟨gk,0,none⟩) r7.length r7.length] 149))
  refine hK.out _ _ B5.out (fun hHeld=>?_)
  clear hK K
  refine nor_ ?_
  clear hHeld
  generalize wf.alloc (.cells #[.slice A1 l.length c1,.int .i64 lo,.int .i64 un,.pointer (some ⟨bm,0,none⟩),.pointer (some ⟨bp,0,none⟩),.slice (some ⟨gk,0,none⟩) r7.length r7.length] 149)=wa at B5 HV BK HM5 HP5 HQ5 HR5 HB5 BE ⊢
  generalize wf.heap.size=be at BE GE ⊢
  refine pur_ 9 10 ?_
  refine eO (by kernel_rfl) ?_
  have c6:=(aC B5.out 6).trans rfl
  have HE:=aA.mk (fun k h=>XF r7 k h)
  have x0:=aA.mk (show be≠gk from aK BE.out BK.out (by decide))
  go_wp2_with fail
  go_loopw [59] (fun i wr=>∃ (k:Nat),k≤r7.length∧i= .int .i64 k∧aA (Mod (fun q=>q=gk) wa wr)∧aA (wr.heap[gk]?=some (.cells (bD ((over r7 k).map cz)) 192 (0,0)))) (fun i _=>r7.length - (intOf i).toNat)
  case atStart=>exact ⟨0,Nat.zero_le _,rfl,⟨Mod.refl _ _⟩,BK⟩
  case round=>
   obtain ⟨k,hk,rfl,HMD,BKw⟩:=hrel
   have BK2:=BK
   clear BK
   have BEw:=aA.mk (HMD.out.bI BE.out x0.out)
   by_cases hlt:k<r7.length
   ·have hT:decide ((k:Int)<(r7.length:Int))=true:=decide_eq_true (by omega)
    obtain ⟨ad,rfl,y0⟩:=Kd.oZ HRW.out (k:Int) (by omega) (by omega)
    have HBr:=aA.mk (oK HB5.out (HMD.out.below (B:=w.heap.size) (fun i hi=>hi▸GK.out) HB5.out.size))
    replace y0:=(HBr.out.cell (World.block_lt_of_cell? w _ y0)).trans y0
    simp only [Int.toNat_natCast] at y0
    have hrd:rd r7 (k:Int)=r7.getD k 0:=by simp [rd]
    rw [hrd] at y0
    have hs:=aA.mk (HE.out k hlt)
    generalize r7.getD k 0=rv at y0 hs
    clear hrd HE
    have b5:=(aC BEw.out 5).trans rfl
    obtain ⟨x9,hx9⟩:∃ x,(bD ((over r7 k).map cz))[k*9+7]?=some x:=by
     rw [tL _ k 7 (by decide),List.getElem?_eq_getElem (by rw [List.length_map,lH r7 k hk];exact hlt)]
     exact ⟨_,rfl⟩
    have fz:=aG BKw.out (k*9+7)
    have cz7:=(aC BKw.out (k*9+7)).trans hx9
    clear hx9
    go_wp2_with fail
    go_roundw
    case rel=>exact ⟨k+1,by omega,by go_num,⟨HMD.out.setCell rfl _⟩,⟨(bE BKw.out _ _).trans (by rw [hs.out])⟩⟩
    case measure=>simp [intOf];omega
   ·have ek:k=r7.length:=by omega
    subst ek
    have hT:decide ((r7.length:Int)<(r7.length:Int))=false:=decide_eq_false (by omega)
    go_wp2_with fail
    refine bodyPost_ret (v:= .tuple #[.pointer (some ⟨be,0,none⟩),.int .i64 0]) (by simp [results,Tryz.results51,go_sem, *]) rfl ?_
    have hA:y9 wa (fun q=>q=gk) [261,3,310,314,231,227,284,22,214]:=fun q hq=>⟨_,192,hq▸BK2.out,by decide⟩
    refine ⟨be,_,bm,bc,gc,vs,vb,bp,bq,vr,rs,gk,rfl,oK HB5.out (HMD.out.below (B:=w.heap.size) (fun i hi=>hi▸GK.out) HB5.out.size),⟨(HMD.out.bI BE.out x0.out).trans (by simp),hA.R HMD.out HV.out (by decide),HM5.out.mod HMD.out (hA.sub (by decide)),HP5.out.mod HMD.out (hA.sub (by decide)),BKw.out.trans (by rw [OJ])⟩,HMD.out.bI HQ5.out (fun e=>by have h2:=HQ5.out;have h3:=BK2.out;rw [e] at h2;rw [h2] at h3;cases h3),HQ.out.1,HQ.out.2.1,GC.out,GK.out,HQ.out.2.2.2,HQ.out.2.2.1⟩
end Go.Proofs.YtjopodnlffaogaaGreatDoor.Tp
end
section
namespace Go.Proofs.YtjopodnlffaogaaGreatDoor.Abs
def allT:List (List Value × Value):=oneA++(oneB++(oneC++(oneD++(oneE))))
theorem WE:cF V1 240 allT:=YG.append (V8.append (WV.append (YA.append (V9))))
noncomputable def I4:Callee:=or (yL V1 240 allT) I1
theorem I4_ok:bV Tryz.prog 12 I4:=rI WE.callee AD
noncomputable def C4:Callee:=run Tryz.prog 12 I4 1000 30
theorem gQ:bV Tryz.prog 12 C4:=qB I4_ok wide fit 1000 30
end Go.Proofs.YtjopodnlffaogaaGreatDoor.Abs
end
section
namespace Go.Proofs.YtjopodnlffaogaaGreatDoor.Abs
open Go.RowKit Tp Go.Proofs.YtjopodnlffaogaaGreatDoorW.PrintWords
def cG (l:List dA):List Value:=l.flatMap dA.cells
theorem gS:∀ l:List dA,(cG l).length=l.length*8
 | []=>rfl
 |x :: l=>by
  have:=gS l
  unfold cG at this ⊢
  rw [List.flatMap_cons,List.length_append,this,List.length_cons]
  simp only [dA.cells,List.length_cons,List.length_nil]
  omega
theorem tD:∀ (l:List dA) (j:Nat) (x:dA),l[j]?=some x→((cG l).drop (j*8)).take 8=x.cells
 | [],j,x,h=>by simp at h
 |y :: l,0,x,h=>by
  simp at h
  subst h
  rfl
 |y :: l,j+1,x,h=>by
  have h2:l[j]?=some x:=by simpa using h
  have:=tD l j x h2
  have e:cG (y :: l)=y.cells++cG l:=by unfold cG;rw [List.flatMap_cons]
  rw [e,List.drop_append]
  have h8:y.cells.length=8:=rfl
  have h9:(y.cells).drop ((j+1)*8)= []:=List.drop_eq_nil_of_le (by rw [h8];omega)
  rw [h9,h8,List.nil_append,show (j+1)*8 - 8=j*8 by omega]
  exact this
noncomputable def iS (r:Option (Value × A)) (n:Nat) (cs:List Value) (lo un:Int):Bool:=
 match r with
 |some (.tuple ⟨[.agg ⟨[.slice (some ⟨b,0,none⟩) m 1,.int .i64 x,.int .i64 y]⟩,.int .i64 z,.int .i64 u]⟩,a)=>match a.get b with
  |some (.row cs' 214 1)=>Nat.beq m n&&tV cs' cs&&sQ x lo&&sQ y un&&sQ z 0&&sQ u 0
  |_=>false
 |_=>false
theorem B6:(Tryz.prog.info? 214).map (·.size)=some 8:=by kernel_rfl
theorem z6 {txt:ByteArray} {v:Value} {a':A} (hrun':mI 159 [.string txt] (jU V1) v a') {l:List dA} {lo un:Int} (h:iS (some (v,a')) l.length (cG l) lo un=true):dZ txt l lo un:=by
 intro w W hw hbl
 obtain ⟨ρ,hR,hN,hG⟩:=hw.1.below hbl
 unfold iS at h
 split at h
 ·rename_i b m x y z u a hrun
  cases hrun
  split at h
  ·rename_i cs' hb
   simp only [Bool.and_eq_true,l5] at h
   obtain ⟨⟨⟨⟨⟨rfl,h2⟩,h3⟩,h4⟩,h5⟩,h6⟩:=h
   have h2:=pE h2
   subst h2
   have h3:=mB h3
   have h4:=mB h4
   have h5:=mB h5
   have h6:=mB h6
   subst h3 h4 h5 h6
   refine (hrun' ρ W #[.string txt] hR hN hG (.cons (.flat rfl) .nil)).mono ?_
   rintro e w' ⟨cv,σ,rfl,hv,hs,hn,hle⟩
   obtain ⟨arr,rfl,hl⟩:=hv.zZ
   cases hl':arr.toList with
   |nil=>rw [hl'] at hl;cases hl
   |cons v1 t1=>
    rw [hl'] at hl
    cases hl with
    |cons k1 hl=>
     cases hl with
     |cons k2 hl=>
      cases hl with
      |cons k3 hl=>
       cases hl
       obtain ⟨arr2,rfl,hl2⟩:=k1.YM
       cases hl2':arr2.toList with
       |nil=>rw [hl2'] at hl2;cases hl2
       |cons u1 t2=>
        rw [hl2'] at hl2
        cases hl2 with
        |cons j1 hl2=>
         cases hl2 with
         |cons j2 hl2=>
          cases hl2 with
          |cons j3 hl2=>
           cases hl2
           obtain ⟨c,rfl,hcb,hcap⟩:=j1.fL
           have q2:=j2.eT
           have q3:=j3.eT
           have q4:=k2.eT
           have q5:=k3.eT
           subst q2 q3 q4 q5
           have e2:arr2=#[.slice (some ⟨c,0,none⟩) l.length (cJ σ b 1),.int .i64 x,.int .i64 y]:=Array.toList_inj.1 (by simpa using hl2')
           subst e2
           have e1:arr=#[.agg #[.slice (some ⟨c,0,none⟩) l.length (cJ σ b 1),.int .i64 x,.int .i64 y],.int .i64 0,.int .i64 0]:=Array.toList_inj.1 (by simpa using hl')
           subst e1
           obtain ⟨C,fr,g1,g2,g3,g4,g5⟩:=hs.rel.row hb hcb
           obtain rfl:=g3 (by decide)
           obtain ⟨i,hi,hcs,hcm⟩:=g4 rfl
           have hi8:i.size=8:=by
            have:=B6
            rw [hi] at this
            simpa using this
           have hk:cJ σ b 1=σ.cap b:=by simp [cJ]
           rw [hk] at hcap ⊢
           obtain ⟨pre,rest,hC,hpre⟩:=g2
           have hflat:fC (cG l)=true:=by
            rw [mG]
            intro v hv
            unfold cG at hv
            obtain ⟨y,_,hy⟩:=List.mem_flatMap.1 hv
            simp only [dA.cells,List.mem_cons,List.not_mem_nil,or_false] at hy
            rcases hy with rfl|rfl|rfl|rfl|rfl|rfl|rfl|rfl <;> rfl
           have hp:=hpre.bW hflat
           subst hp
           have hbase:W.heap.size≤c:=by
            rcases hs.own c ⟨b,_,hb,by show (1:Nat)≠2;decide,hcb⟩ with h7|h7
            ·obtain ⟨b',o',q1,q2,_⟩:=h7
             obtain ⟨_,_,rfl,_⟩:=kA (vs:=V1) (by kernel_rfl) q1
             exact absurd rfl q2
            ·exact h7
           refine ⟨some ⟨c,0,none⟩,σ.cap b,rfl,⟨fun _ _=>trivial,cG l,⟨gS l,.inr ⟨c,σ.cap b,C,rfl,hbase,g1,hcap,hcm,by rw [hcs,hi8];rfl,?_⟩⟩,gS l,fun j x hj=>?_⟩,hs.md.os,hs.md.tape,hs.md.output,hs.md.size,fun i hi=>hs.md.block i hi (fun hl=>?_)⟩
           ·rw [hC]
            exact List.take_left' (gS l)
           ·have:=tD l j x hj
            show e9.M _ _ _ x (((cG l).drop (j*8)).take 8)
            rw [this]
            exact E7 _ _ _ _
           ·obtain ⟨b',o',q1,q2,_⟩:=hl
            obtain ⟨_,_,rfl,_⟩:=kA (vs:=V1) (by kernel_rfl) q1
            exact absurd rfl q2
  ·cases h
 ·cases h
theorem eI {lf:Nat} {call:Callee} (hc:bV Tryz.prog 12 call) {txt:ByteArray} {l:List dA} {lo un:Int} (h:iS (gE Tryz.prog lf call [159] 159 [.string txt] (jU V1)) l.length (cG l) lo un=true):dZ txt l lo un:=by
 cases hq:gE Tryz.prog lf call [159] 159 [.string txt] (jU V1) with
 |none=>rw [hq] at h;cases h
 |some q=>exact z6 (mI.LW (AF hc wide [159]) hq) (by rw [← hq];exact h)
theorem nT {c1:Callee} (hc1:bV Tryz.prog 12 c1) {lf:Nat} {txt:ByteArray} {l:List dA} {lo un:Int} (hst:(gI 159 c1 lf [.string txt] (jU V1)).isSome=true) (h:mY (gI 159 c1 lf [.string txt] (jU V1)) 0 none (fun r=>iS r l.length (cG l) lo un)):dZ txt l lo un:=by
 obtain ⟨v,a',h1,h2⟩:=sT hc1 wide hst h rfl
 exact z6 h2 h1
end Go.Proofs.YtjopodnlffaogaaGreatDoor.Abs
end
