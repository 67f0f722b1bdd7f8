/- A part of the proof of TopSame: TpSpecAnderson. -/
import Derived.Test.YtjopodnlffaogaaGreatDoorSL1
set_option linter.unusedVariables false
set_option linter.unusedSimpArgs false
set_option maxRecDepth 100000
set_option maxHeartbeats 4000000
section
namespace Go.Proofs.YtjopodnlffaogaaGreatDoor.Tp
open Go.RowKit Go.Proofs.YtjopodnlffaogaaGreatDoorW.PrintWords Go.Proofs.YtjopodnlffaogaaGreatDoorW.PrintLast Go.Proofs.YtjopodnlffaogaaGreatDoorW.PrintMore
attribute [local go_sem] aU aQ aY aX aI aJ aT aN
theorem p9 {txt:ByteArray} (l:List dA) (lo un:Int) (ha:dZ txt l lo un) (n j s:Nat) (ht:mR 161 #[.int .i64 ((2 ^ j:Nat):Int)] txt) (w:World) (hl:dO w) (n1:1≤n) (n64:n≤64) (hj:j≤6) (hnt:n≤2 ^ j) (hs:s<4294967296):
  Calls Tryz.prog 106 #[.int .i64 (n:Int),.int .i64 ((2 ^ j:Nat):Int),.int .u32 (s:Int)] w fun e w'=>∃ v,e= .returned (.tuple #[v,.int .i64 0])∧Below w.heap.size w w'∧cQ w.heap.size w' v l lo un [1,((2 ^ j:Nat):Int)] (((List.replicate (2 ^ j+1) 0).set 0 (s:Int)).set (1+s % 2 ^ j) 1) 0 (List.replicate n 0):=by
 have HA:=aA.mk ha
 have HL:=aA.mk hl
 have e0:decide ((n:Int)<1)=false:=decide_eq_false (by omega)
 have e1:decide (64<(n:Int))=false:=decide_eq_false (by omega)
 have ht2:2 ^ j≤2 ^ 6:=Nat.pow_le_pow_right (by decide) hj
 have ht3:1≤2 ^ j:=Nat.one_le_two_pow
 have hg:=E8 (2 ^ j) j (by omega) hj
 rw [Nat.mod_self] at hg
 have hm:=E8 s j hs hj
 have HT:=aA.mk ht
 have hr:s % 2 ^ j<2 ^ j:=Nat.mod_lt _ (by omega)
 obtain ⟨r,hr0⟩:∃ r,r=s % 2 ^ j:=⟨_,rfl⟩
 rw [← hr0] at hm hr ⊢
 clear hr0 ht hj
 obtain ⟨t,ht0⟩:∃ t,t=2 ^ j:=⟨_,rfl⟩
 rw [← ht0] at hg hm hr HT ht2 ht3 hnt ⊢
 clear ht0
 obtain ⟨k,hk⟩:∃ k,k=t+1:=⟨_,rfl⟩
 obtain ⟨q,hq⟩:∃ q,q=1+r:=⟨_,rfl⟩
 obtain ⟨t1,ht1⟩:∃ t1,t1=t - 1:=⟨_,rfl⟩
 rw [← hk,← hq]
 have e2:decide ((t:Int)<(n:Int))=false:=decide_eq_false (by omega)
 have e3:decide (64<(t:Int))=false:=decide_eq_false (by omega)
 have e4:¬ t<n:=by omega
 have hw1:IntKind.i64.wrap ((t:Int)+1)=(k:Int):=cD _ k (by omega) (by omega)
 have hw2:IntKind.i64.wrap ((t:Int) - 1)=(t1:Int):=cD _ t1 (by omega) (by omega)
 have hw3:wrap64 ((t:Int) - 1)=(t1:Int):=by unfold wrap64;omega
 rw [hw3] at hg hm
 have hw4:IntKind.i64.wrap (1+(r:Int))=(q:Int):=cD _ q (by omega) (by omega)
 have hw5:IntKind.i64.wrap (s:Int)=(s:Int):=cD _ s rfl (by omega)
 have MI:=aA.mk (fun W:World=>dN (P:=Tryz.prog) 33 22 (.int .u32 0) 4 Tryz.underlying33 (by kernel_rfl) rfl (by decide) k (by omega) W)
 have MR:=aA.mk (fun W:World=>dN (P:=Tryz.prog) 33 22 (.int .u32 0) 4 Tryz.underlying33 (by kernel_rfl) rfl (by decide) n (by omega) W)
 have WD:=Abs.wide
 clear ha hl
 have HK:=aA.mk (⟨hk,hq,hr,ht2,hnt⟩:k=t+1∧q=1+r∧r<t∧t≤64∧n≤t)
 clear n1 hk hq hr ht2 hnt ht1 ht3 hs
 go_enter Tryz.func106,Tryz.ntmps106
 go_wp2_with fail
 have HJ:=aA.mk (show DJ w (.cells cA 114) (w.alloc (.cells cA 114)).drew from ⟨bG (aD (Below.refl w.heap.size w) _),bF w _⟩)

 obtain ⟨ds,hds⟩:∃ ds:List H8,ds= [(fun _=> .int .i64 (t:Int),[]),(fun gs=> .slice (some ⟨(gs.getD 0 0),0,none⟩) 2 2,[.cells #[.int .i64 1,.int .i64 (t:Int)] 3 (0,0)]),(fun _=> .int .i64 (t:Int),[]),(fun _=> .int .i64 (k:Int),[]),(fun gs=> .slice (some ⟨(gs.getD 0 0),0,none⟩) k k,[.cells (bL k (.int .u32 0)) 22 (0,0)]),(fun _=> .int .i64 (n:Int),[]),(fun gs=> .slice (some ⟨(gs.getD 0 0),0,none⟩) n n,[.cells (bL n (.int .u32 0)) 22 (0,0)]),(fun gs=> .agg #[.slice none 0 0,.int .i64 0,.int .i64 0,.slice (some ⟨(gs.getD 0 0),0,none⟩) 2 2,.slice (some ⟨(gs.getD 1 0),0,none⟩) k k,.int .i64 0,.slice (some ⟨(gs.getD 2 0),0,none⟩) n n],[.cells #[.int .i64 1,.int .i64 (t:Int)] 3 (0,0),.cells (bL k (.int .u32 0)) 22 (0,0),.cells (bL n (.int .u32 0)) 22 (0,0)]),(fun gs=> .pointer (some ⟨(gs.getD 0 0),0,none⟩),[.cells cA 114 (0,0)])]:=⟨_,rfl⟩
 refine hZ (w:=w) (by kernel_rfl) (k:=9) rfl (.cells cA 114 (0,0)) ds (by kernel_rfl) (by kernel_rfl) rfl rfl HJ.out ?ob ?cont
 case ob=>
  refine pK (fun QQ=>?_)
  rename_i aa1
  clear aa1 HA HL HJ e0 e1 HK WD HT
  refine aW ?_ ?_
  ·refine bZ rfl (by rw [hds];rfl) (fun a' w' hs=>?_)
   have e1:=hs.own 1 (by kernel_rfl) (v:= .int .i64 (t:Int)) rfl
   clear hs hds
   go_simp
  refine aW ?_ ?_
  ·refine cZ rfl (by rw [hds];rfl) (fun a' w' hs=>?_)
   have e32:=hs.val 0 32 (by kernel_rfl) (by kernel_rfl) (v:= .int .i64 (t:Int)) (by rw [hds];rfl)
   clear hs hds
   go_simp
  refine aW ?_ ?_
  ·refine bZ rfl (by rw [hds];rfl) (fun a' w' hs=>?_)
   have e1:=hs.own 1 (by kernel_rfl) (v:= .int .i64 (t:Int)) rfl
   clear hs hds
   go_simp
  refine aW ?_ ?_
  ·refine bZ rfl (by rw [hds];rfl) (fun a' w' hs=>?_)
   have e34:=hs.val 2 34 (by kernel_rfl) (by kernel_rfl) (v:= .int .i64 (t:Int)) (by rw [hds];rfl)
   clear hs hds
   go_simp
  refine aW ?_ ?_
  ·refine cZ rfl (by rw [hds];rfl) (fun a' w' hs=>?_)
   have e35:=hs.val 3 35 (by kernel_rfl) (by kernel_rfl) (v:= .int .i64 (k:Int)) (by rw [hds];rfl)
   clear hs hds
   have hmk:=MI.out w';go_simp
  refine aW ?_ ?_
  ·refine bZ rfl (by rw [hds];rfl) (fun a' w' hs=>?_)
   have e0:=hs.own 0 (by kernel_rfl) (v:= .int .i64 (n:Int)) rfl
   clear hs hds
   go_simp
  refine aW ?_ ?_
  ·refine cZ rfl (by rw [hds];rfl) (fun a' w' hs=>?_)
   have e37:=hs.val 5 37 (by kernel_rfl) (by kernel_rfl) (v:= .int .i64 (n:Int)) (by rw [hds];rfl)
   clear hs hds
   have hmk:=MR.out w';go_simp
  refine aW ?_ ?_
  ·refine sF rfl (by rw [hds];rfl) (fun a' w' hs=>?_)
   obtain ⟨g33,e33,b33⟩:=hs.D5 1 33 (by kernel_rfl) (by kernel_rfl) (by rw [hds];rfl)
   obtain ⟨g36,e36,b36⟩:=hs.D5 4 36 (by kernel_rfl) (by kernel_rfl) (by rw [hds];rfl)
   obtain ⟨g38,e38,b38⟩:=hs.D5 6 38 (by kernel_rfl) (by kernel_rfl) (by rw [hds];rfl)
   clear hs hds
   obtain ⟨c33,rfl,h33,l33⟩:=b33.one
   obtain ⟨c36,rfl,h36,l36⟩:=b36.one
   obtain ⟨c38,rfl,h38,l38⟩:=b38.one
   refine ⟨[c33,c36,c38],?_,lF.mk3 h33 l33 h36 l36 h38 l38⟩
   dsimp only [List.getD_cons_zero,List.getD_cons_succ] at*
   go_simp
  refine aW ?_ o6
  ·refine cZ rfl (by rw [hds];rfl) (fun a' w' hs=>?_)
   clear hs hds
   kernel_rfl
 intro vs wf hJ hv
 generalize hA:iY _ _ 0 vs=A
 have q0:=hv.val 0 (.int .i64 (t:Int)) (by decide) (by rw [hds];rfl)
 obtain ⟨x1,q1,F1,G1⟩:=hv.one 1 (fun gs=> .slice (some ⟨(gs.getD 0 0),0,none⟩) 2 2) (.cells #[.int .i64 1,.int .i64 (t:Int)] 3 (0,0)) (by decide) (by rw [hds];rfl)
 have q2:=hv.val 2 (.int .i64 (t:Int)) (by decide) (by rw [hds];rfl)
 have q3:=hv.val 3 (.int .i64 (k:Int)) (by decide) (by rw [hds];rfl)
 obtain ⟨x4,q4,F4,G4⟩:=hv.one 4 (fun gs=> .slice (some ⟨(gs.getD 0 0),0,none⟩) k k) (.cells (bL k (.int .u32 0)) 22 (0,0)) (by decide) (by rw [hds];rfl)
 have q5:=hv.val 5 (.int .i64 (n:Int)) (by decide) (by rw [hds];rfl)
 obtain ⟨x6,q6,F6,G6⟩:=hv.one 6 (fun gs=> .slice (some ⟨(gs.getD 0 0),0,none⟩) n n) (.cells (bL n (.int .u32 0)) 22 (0,0)) (by decide) (by rw [hds];rfl)
 obtain ⟨g_s,g_i,g_r,q7,⟨F_s,l_s⟩,⟨F_i,l_i⟩,F_r,l_r⟩:=hv.three 7 (fun gs=> .agg #[.slice none 0 0,.int .i64 0,.int .i64 0,.slice (some ⟨(gs.getD 0 0),0,none⟩) 2 2,.slice (some ⟨(gs.getD 1 0),0,none⟩) k k,.int .i64 0,.slice (some ⟨(gs.getD 2 0),0,none⟩) n n]) (.cells #[.int .i64 1,.int .i64 (t:Int)] 3 (0,0)) (.cells (bL k (.int .u32 0)) 22 (0,0)) (.cells (bL n (.int .u32 0)) 22 (0,0)) (by decide) (by rw [hds];rfl)
 obtain ⟨g_x,q8,F8,G8⟩:=hv.one 8 (fun gs=> .pointer (some ⟨(gs.getD 0 0),0,none⟩)) (.cells cA 114 (0,0)) (by decide) (by rw [hds];rfl)
 clear hv hds
 simp only [List.toList_toArray,List.take_succ_cons,List.take_zero,iY,Act.put,List.setIfInBounds_toArray,List.set_cons_zero,List.set_cons_succ,Nat.reduceAdd,List.getD_cons_zero,List.getD_cons_succ,q0,q1,q2,q3,q4,q5,q6,q7,q8] at hA
 subst hA
 clear q0 q1 q2 q3 q4 q5 q6 q7 q8 F1 G1 F4 G4 F6 G6
 refine wp_store_row 114 (.tmp 8) (.tmp 39) rfl g_x #[.slice none 0 0,.int .i64 0,.int .i64 0,.slice (some ⟨g_s,0,none⟩) 2 2,.slice (some ⟨g_i,0,none⟩) k k,.int .i64 0,.slice (some ⟨g_r,0,none⟩) n n] rfl rfl 114 _ F8 (by kernel_rfl) rfl (by kernel_rfl) ?_
 have ne0:w.heap.size≠g_x:=Nat.ne_of_lt G8
 have n_s:=aA.mk ((setRow_other wf g_x _ #[.slice none 0 0,.int .i64 0,.int .i64 0,.slice (some ⟨g_s,0,none⟩) 2 2,.slice (some ⟨g_i,0,none⟩) k k,.int .i64 0,.slice (some ⟨g_r,0,none⟩) n n] (aK F_s F8 (by decide))).trans F_s)
 have n_i:=aA.mk ((setRow_other wf g_x _ #[.slice none 0 0,.int .i64 0,.int .i64 0,.slice (some ⟨g_s,0,none⟩) 2 2,.slice (some ⟨g_i,0,none⟩) k k,.int .i64 0,.slice (some ⟨g_r,0,none⟩) n n] (aK F_i F8 (by decide))).trans F_i)
 have n_r:=aA.mk ((setRow_other wf g_x _ #[.slice none 0 0,.int .i64 0,.int .i64 0,.slice (some ⟨g_s,0,none⟩) 2 2,.slice (some ⟨g_i,0,none⟩) k k,.int .i64 0,.slice (some ⟨g_r,0,none⟩) n n] (aK F_r F8 (by decide))).trans F_r)
 have n_B0:=aA.mk (show (wf.setRow g_x #[.slice none 0 0,.int .i64 0,.int .i64 0,.slice (some ⟨g_s,0,none⟩) 2 2,.slice (some ⟨g_i,0,none⟩) k k,.int .i64 0,.slice (some ⟨g_r,0,none⟩) n n]).heap[w.heap.size]?=some (.cells #[.slice none 0 0,.int .i64 0,.int .i64 0,.slice none 0 0,.slice none 0 0,.int .i64 0,.slice none 0 0] 114 (0,0)) from (setRow_other wf g_x _ #[.slice none 0 0,.int .i64 0,.int .i64 0,.slice (some ⟨g_s,0,none⟩) 2 2,.slice (some ⟨g_i,0,none⟩) k k,.int .i64 0,.slice (some ⟨g_r,0,none⟩) n n] (Nat.ne_of_lt G8)).trans hJ.at_)
 have n_x:=aA.mk (setRow_heap wf g_x _ #[.slice none 0 0,.int .i64 0,.int .i64 0,.slice (some ⟨g_s,0,none⟩) 2 2,.slice (some ⟨g_i,0,none⟩) k k,.int .i64 0,.slice (some ⟨g_r,0,none⟩) n n] 114 (0,0) F8)
 have n_HB:=aA.mk (below_setRow hJ.below (Nat.le_of_lt G8) #[.slice none 0 0,.int .i64 0,.int .i64 0,.slice (some ⟨g_s,0,none⟩) 2 2,.slice (some ⟨g_i,0,none⟩) k k,.int .i64 0,.slice (some ⟨g_r,0,none⟩) n n])
 have G_s:=aA.mk l_s
 have G_i:=aA.mk l_i
 have G_r:=aA.mk l_r
 have G_x:=aA.mk G8
 clear F_s F_i F_r F8 hJ l_s l_i l_r G8
 generalize wf.setRow g_x #[.slice none 0 0,.int .i64 0,.int .i64 0,.slice (some ⟨g_s,0,none⟩) 2 2,.slice (some ⟨g_i,0,none⟩) k k,.int .i64 0,.slice (some ⟨g_r,0,none⟩) n n]=wg at n_B0 n_x n_s n_i n_r n_HB ⊢
 change Exit.then _ _ _ _ _
 have x4:=(aC n_x.out 4).trans rfl
 have zk:∀ j:Nat,j<k→(bL k (.int .u32 0))[j]?=some (.int .u32 0):=fun j hj=>by simp [bL,hj]
 have i0:=(aC n_i.out 0).trans (zk 0 (by have:=HK.out;omega))
 have iq:=(aC n_i.out q).trans (zk q (by have:=HK.out;omega))
 have f0:=aG n_i.out 0
 have fq:=aG n_i.out q
 have hb2:0<k:=by have:=HK.out;omega
 have hb3:q<k:=by have:=HK.out;omega
 have hb4:(q:Int)<(k:Int):=by omega
 have hb5:(0:Int)<(k:Int):=by omega
 have hb0:decide ((0:Int)<(k:Int))=true:=decide_eq_true hb5
 have hb1:decide ((q:Int)<(k:Int))=true:=decide_eq_true hb4
 have hz1:¬ 0=q:=by have:=HK.out;omega
 have hz2:¬ q=0:=by have:=HK.out;omega
 have hgx:¬ g_i=g_x:=fun e=>aK n_i.out n_x.out (by decide) e
 have hgx2:¬ g_x=g_i:=fun e=>hgx e.symm
 have NIR:=aA.mk (show ¬ g_r=g_i from fun e=>by
  have h1:=n_r.out
  rw [e,n_i.out] at h1
  have h3:=congrArg (fun o=>match o with|some (Obj.cells c _ _)=>c.size|_=>0) h1
  simp [bL] at h3
  have h4:=HK.out
  omega)
 go_wp2_with fail
 go_region
 all_goals
  have M1:Mod (fun y=>y=g_i) wg (((wg.setCell ⟨g_i,0,none⟩ (.int .u32 (s:Int))).setCell ⟨g_i,q,none⟩ (.int .u32 1)).drew):=(Mod.setCell (S:=fun y=>y=g_i) (Mod.setCell (S:=fun y=>y=g_i) (Mod.refl _ wg) (p:=⟨g_i,0,none⟩) rfl _) (p:=⟨g_i,q,none⟩) rfl _).drew
  have o_i:=aA.mk (show (((wg.setCell ⟨g_i,0,none⟩ (.int .u32 (s:Int))).setCell ⟨g_i,q,none⟩ (.int .u32 1)).drew).heap[g_i]?=some (.cells ((((List.replicate k 0).set 0 (s:Int)).set q 1).map (Value.int .u32)).toArray 22 (0,0)) from (bE (bE n_i.out 0 _) q _).trans (by rw [rW,rJ,rJ]))
  clear x4 zk i0 iq f0 fq hb0 hb1 hb2 hb3 hb4 hb5 hz1 hz2 hgx hgx2
  have T1:∀ q,q=g_i→∃ c t,wg.heap[q]?=some (.cells c t (0,0))∧t=22:=fun q hq=>⟨_,_,hq▸n_i.out,rfl⟩
  have o_B0:=aA.mk (M1.qT n_B0.out (fun q hq=>by obtain ⟨c,t,h1,rfl⟩:=T1 q hq;exact ⟨c,_,h1,by decide⟩))
  have o_x:=aA.mk (M1.qT n_x.out (fun q hq=>by obtain ⟨c,t,h1,rfl⟩:=T1 q hq;exact ⟨c,_,h1,by decide⟩))
  have o_s:=aA.mk (M1.qT n_s.out (fun q hq=>by obtain ⟨c,t,h1,rfl⟩:=T1 q hq;exact ⟨c,_,h1,by decide⟩))
  have o_r:=aA.mk (M1.bI n_r.out NIR.out)
  have o_HB:=aA.mk (kL n_HB.out (Nat.le_refl _) M1 (fun q hq=>hq▸Nat.le_of_lt G_i.out))
  clear M1 T1 n_B0 n_x n_s n_r n_i n_HB NIR
  have n_B0:=o_B0
  have n_x:=o_x
  have n_s:=o_s
  have n_r:=o_r
  have n_i:=o_i
  have n_HB:=o_HB
  clear o_B0 o_x o_s o_r o_i o_HB
  generalize ((wg.setCell ⟨g_i,0,none⟩ (.int .u32 (s:Int))).setCell ⟨g_i,q,none⟩ (.int .u32 1)).drew=wh at n_B0 n_x n_s n_i n_r n_HB ⊢
  go_wp2_with (first|(go_at_call 161;refine (HT.out _ _ HL.out n_HB.out).mono ?_;rintro e w5 ⟨rfl,hb5⟩;have o_B0:=aA.mk (aE n_B0.out hb5);have o_x:=aA.mk (aE n_x.out hb5);have o_s:=aA.mk (aE n_s.out hb5);have o_i:=aA.mk (aE n_i.out hb5);have o_r:=aA.mk (aE n_r.out hb5);have o_HB:=aA.mk (bA n_HB.out hb5);clear hb5 n_B0 n_x n_s n_i n_r n_HB HT;have n_B0:=o_B0;have n_x:=o_x;have n_s:=o_s;have n_i:=o_i;have n_r:=o_r;have n_HB:=o_HB;clear o_B0 o_x o_s o_i o_r o_HB)|(go_at_call 159;refine (HA.out _ _ HL.out n_HB.out).mono ?_;rintro e w6 ⟨A,c,rfl,hR,hb⟩;have HV:=aA.mk (Kd.cT hR n_HB.out.size);have m0:=aA.mk (aE n_B0.out hb);have m_x:=aA.mk (aE n_x.out hb);have m_s:=aA.mk (aE n_s.out hb);have m_i:=aA.mk (aE n_i.out hb);have m_r:=aA.mk (aE n_r.out hb);have m_HB:=aA.mk (bA n_HB.out hb);clear hb hR n_B0 n_x n_s n_i n_r n_HB HA;obtain ⟨d0,f0,d1,f1,d2,f2,d3,f3,d4,f4,d5,f5,d6,f6⟩:=fP m_x.out;obtain ⟨p0,q0,p1,q1,p2,q2,p3,q3,p4,q4,p5,q5,p6,q6⟩:=fP m0.out;have ne0:w.heap.size≠g_x:=Nat.ne_of_lt G_x.out;have ne1:g_x≠w.heap.size:=fun e=>ne0 e.symm))
  clear d0 f0 p0 q0 d1 f1 p1 q1 d2 f2 p2 q2 d3 f3 p3 q3 d4 f4 p4 q4 d5 f5 p5 q5 d6 f6 p6 q6
  obtain ⟨WF,hWF,h1,h2,h3⟩:=kX (szs:= [1,(t:Int)]) (xs:=((List.replicate k 0).set 0 (s:Int)).set q 1) (r7:=List.replicate n 0) (m:=0) (lo:=lo) (un:=un) m0.out m_x.out G_x.out m_HB.out m_s.out m_i.out (by simpa [bL] using m_r.out) (Nat.le_of_lt G_s.out) (Nat.le_of_lt G_i.out) (Nat.le_of_lt G_r.out) HV.out (by simp) (by have:=HK.out;simp;omega) (by simp;omega)
  simp only [List.length_replicate,List.length_set] at hWF h2 h3
  change bodyPost _ _ _ _ _ (hU (gC w6 g_x _ _ _) w.heap.size _ _ _ _ _ _ _)
  have hWF2:WF=hU (gC w6 g_x (.slice A l.length c) (.int .i64 lo) (.int .i64 un)) w.heap.size (.slice A l.length c) (.int .i64 lo) (.int .i64 un) (.slice (some ⟨g_s,0,none⟩) 2 2) (.slice (some ⟨g_i,0,none⟩) k k) (.int .i64 0) (.slice (some ⟨g_r,0,none⟩) n n):=hWF
  rw [← hWF2]
  clear hWF hWF2
  obtain ⟨r0,r1,r2,r3,r4,r5,r6⟩:=gJ h2
  exact bodyPost_ret (v:= .tuple #[.agg #[.slice A l.length c,.int .i64 lo,.int .i64 un,.slice (some ⟨g_s,0,none⟩) 2 2,.slice (some ⟨g_i,0,none⟩) k k,.int .i64 0,.slice (some ⟨g_r,0,none⟩) n n],.int .i64 0]) (by simp [results,Tryz.results106,go_sem, *]) rfl ⟨_,rfl,h1,h3⟩
end Go.Proofs.YtjopodnlffaogaaGreatDoor.Tp
end
