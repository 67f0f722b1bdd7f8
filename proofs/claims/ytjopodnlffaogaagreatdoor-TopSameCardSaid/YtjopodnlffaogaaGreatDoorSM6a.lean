/- A part of the proof of TopSame: TmLone6, TmLone7, TmSame, TmCall, TmPick, TmBars, TmDo, TmRunE. -/
import Derived.Test.YtjopodnlffaogaaGreatDoorSM6
set_option linter.unusedVariables false
set_option linter.unusedSimpArgs false
set_option maxRecDepth 100000
set_option maxHeartbeats 4000000
section
namespace Go.Proofs.YtjopodnlffaogaaGreatDoor.Tp
open Go.RowKit Go.Proofs.YtjopodnlffaogaaGreatDoorW.PrintWords Go.Proofs.YtjopodnlffaogaaGreatDoorW.PrintLast Go.Proofs.YtjopodnlffaogaaGreatDoorW.PrintMore
attribute [local go_sem] aU aQ aY aX aI aJ aT aN
structure fH (r:Rg) (n:Nat) (e0 e1:Int):Prop where
 lt:r.first<2
 n:r.n=n
 xs:r.xs=if r.first=0 then [e0,e1] else [e1,e0]
theorem fH.head {r:Rg} {n:Nat} {e0 e1:Int} (h:fH r n e0 e1):r.xs.getD r.first 0=e0:=by
 have:=h.lt
 rw [h.xs]
 rcases (by omega:r.first=0∨r.first=1) with e|e <;> rw [e] <;> rfl
theorem fH.take {r:Rg} {n:Nat} {e0 e1:Int} (h:fH r (n+1) e0 e1):fH (lB 2 r) n e1 0:=by
 have:=h.lt
 unfold lB
 rcases (by omega:r.first=0∨r.first=1) with e|e
 ·refine ⟨by rw [e];show (0+1) % 2<2;decide,by have:=h.n;dsimp only;omega,?_⟩
  dsimp only
  rw [h.xs,e]
  rfl
 ·refine ⟨by rw [e];show (1+1) % 2<2;decide,by have:=h.n;dsimp only;omega,?_⟩
  dsimp only
  rw [h.xs,e]
  rfl
theorem fH.put1 {r:Rg} {e0 e1:Int} (h:fH r 1 e0 e1) (x:Int):fH (oB 2 r x) 2 e0 x:=by
 have:=h.lt
 unfold oB
 rw [if_pos (by rw [h.n];decide)]
 rcases (by omega:r.first=0∨r.first=1) with e|e
 ·refine ⟨this,by have:=h.n;dsimp only;omega,?_⟩
  dsimp only
  rw [h.xs,e,h.n]
  rfl
 ·refine ⟨this,by have:=h.n;dsimp only;omega,?_⟩
  dsimp only
  rw [h.xs,e,h.n]
  rfl
theorem fH.put0 {r:Rg} {e0 e1:Int} (h:fH r 0 e0 e1) (x:Int):fH (oB 2 r x) 1 x e1:=by
 have:=h.lt
 unfold oB
 rw [if_pos (by rw [h.n];decide)]
 rcases (by omega:r.first=0∨r.first=1) with e|e
 ·refine ⟨this,by have:=h.n;dsimp only;omega,?_⟩
  dsimp only
  rw [h.xs,e,h.n]
  rfl
 ·refine ⟨this,by have:=h.n;dsimp only;omega,?_⟩
  dsimp only
  rw [h.xs,e,h.n]
  rfl
theorem AT (k:Nat):hIdx (eR k)=hIdx k:=by unfold eR hIdx;omega
theorem tY {p:dU} {a v:Int} (q k:Nat) {sz:Int} {A:Nat} (ha:a=(q:Int)) (hv:v=(k:Int)) (hs:p.szs[q]?=some sz) (hlt:(hIdx k:Int)<sz) (hA:dX p.szs q+(hIdx k:Int)=(A:Int)):R4 p a v A:=by
 obtain ⟨hq,e⟩:=List.getElem?_eq_some_iff.1 hs
 have hi:hIdx v.toNat=hIdx k:=by rw [hv,Int.toNat_natCast]
 have h1:rd p.szs a=sz:=by unfold rd;rw [ha,Int.toNat_natCast,List.getD_eq_getElem?_getD,hs];rfl
 have h2:rd (dM p.szs p.szs.length) a=dX p.szs q:=by
  unfold rd dM
  rw [ha,Int.toNat_natCast,List.getD_eq_getElem?_getD,List.getElem?_map,List.getElem?_range hq]
  rfl
 exact ⟨by omega,by omega,by rw [hi,h1];exact hlt,by rw [hi,h2,hA];rfl⟩
def Node (n:Nat) (h:Int):Prop:=∃ k:Nat,h=((k+1:Nat):Int)∧k+1<4294967296∧1≤hIdx (k+1)∧hIdx (k+1)≤2*n
theorem Node.next {n:Nat} {k:Nat} (h1:1≤hIdx (k+1)) (h2:hIdx (k+1)≤2*n):Node n (eR (k+1):Int):=by
 have e:=AT (k+1)
 have hl:=xQ (k+1)
 have h3:hIdx (eR (k+1))≤eR (k+1):=by unfold hIdx;exact Nat.mod_le _ _
 refine ⟨eR (k+1) - 1,?_,?_,?_,?_⟩
 all_goals rw [Nat.sub_add_cancel (by omega)]
 ·exact hl
 ·omega
 ·omega
structure JW (n:Nat) (s:XS):Prop where
 z:oM s
 len:s.xs.length=4*n+3
 x0:s.xs.getD 0 0=0
 rl:s.rs.length=n
 rings:∀ u,u<n→∃ e0 e1,fH (s.rs.getD u nP) 2 e0 e1∧Node n e0∧Node n e1
def tW (n:Nat):dU:=⟨gV,0,18,[1,((n*2+1:Nat):Int),((n*2+1:Nat):Int)],List.replicate (2*n*2+3) 0,2,List.replicate n 0⟩
theorem YP (n:Nat) (s:XS) (hr:JW n s) (t:Nat) (ht:t<s.cs.length) (hn:s.cs.length=n) (h64:n≤64):∃ x2,Lone (tW n) t s x2∧JW n x2∧x2.cs.length=s.cs.length:=by
 obtain ⟨r1,r2,r3,r4,r5,r6,r7,pc,hc⟩:=jA hr.z t
 obtain ⟨e0,e1,hR,⟨k,rfl,k1,k2,k3⟩,hN1⟩:=hr.rings t (by omega)
 have hl:=hr.len
 have X2:((s.xs.set (1+hIdx (k+1)) 0).set (2*n+2+hIdx (k+1)) 0).getD 0 0=0:=by rw [bU (by omega),bU (by omega)];exact hr.x0
 have X3:(((s.xs.set (1+hIdx (k+1)) 0).set (2*n+2+hIdx (k+1)) 0).set 0 ((k+1:Nat):Int)).getD (1+hIdx (k+1)) 0=0:=by rw [bU (by omega),bU (by omega),cP (by omega)]
 have X4:(((s.xs.set (1+hIdx (k+1)) 0).set (2*n+2+hIdx (k+1)) 0).set 0 ((k+1:Nat):Int)).getD 0 0=((k+1:Nat):Int):=by rw [cP (by simp;omega)]
 refine ⟨_,⟨⟨_,_,_,4,3,eN (c2:=⟨0,r1,r2,r3,r4,r5,r6,r7,0⟩) hc (by kernel_rfl),
  (.more (K5 (s:=⟨s.xs,s.rs,s.f,s.took,s.cs.set t ⟨0,r1,r2,r3,r4,r5,r6,r7,0⟩⟩) (p:=tW n) (late:=false) (i:=⟨22,7,0,0,0,0,0,0⟩) (r:=s.rs.getD t nP) (h:=((k+1:Nat):Int)) (c2:=⟨0,r1,r2,r3,r4,r5,r6,((k+1:Nat):Int),2⟩) (ms:= []) (dn:= -1) (at_set ht _) (jF (q:=0) rfl) rfl rfl (by rw [hR.n];decide) hR.head (by kernel_rfl))
   (.more (cV (p:=tW n) (t:=t) (late:=false) (at_set (by simpa using ht) _) (i:=⟨17,0,7,0,0,1,0,0⟩) (A:=1+hIdx (k+1)) (c1:=⟨0,r1,r2,r3,r4,r5,r6,((k+1:Nat):Int),3⟩) (xs1:=s.xs.set (1+hIdx (k+1)) 0) (wr:=true) (c2:=⟨0,r1,r2,r3,r4,r5,r6,((k+1:Nat):Int),3⟩) (ms:= []) (dn:=(-1)) (jF (q:=2) rfl) (by decide) (by decide) (tY 1 (k+1) rfl rfl rfl (by omega) (by simp [dX,tW])) (gG rfl) (by kernel_rfl))
   (.more (cV (p:=tW n) (t:=t) (late:=false) (at_set (by simpa using ht) _) (i:=⟨17,0,7,0,0,2,0,0⟩) (A:=2*n+2+hIdx (k+1)) (c1:=⟨0,r1,r2,r3,r4,r5,r6,((k+1:Nat):Int),4⟩) (xs1:=(s.xs.set (1+hIdx (k+1)) 0).set (2*n+2+hIdx (k+1)) 0) (wr:=true) (c2:=⟨0,r1,r2,r3,r4,r5,r6,((k+1:Nat):Int),4⟩) (ms:= []) (dn:=(-1)) (jF (q:=3) rfl) (by decide) (by decide) (tY 2 (k+1) rfl rfl rfl (by omega) (by simp [dX,tW];omega)) (gG rfl) (by kernel_rfl))
   (.last (cV (p:=tW n) (t:=t) (late:=false) (at_set (by simpa using ht) _) (i:=⟨18,6,0,7,0,0,0,0⟩) (A:=0) (c1:=⟨0,r1,r2,r3,r4,r5,0,((k+1:Nat):Int),5⟩) (xs1:=((s.xs.set (1+hIdx (k+1)) 0).set (2*n+2+hIdx (k+1)) 0).set 0 ((k+1:Nat):Int)) (wr:=true) (c2:=⟨0,r1,r2,r3,r4,r5,0,((k+1:Nat):Int),11⟩) (ms:= [1,2]) (dn:=1) (jF (q:=4) rfl) (by decide) (by decide) (gF 0 0 rfl rfl (by decide) rfl (by decide) rfl) (oT rfl X2) (by kernel_rfl)) (by decide))))),by decide,
  eN (c2:=⟨0,r1,r2,r3,r4,r5,0,((k+1:Nat):Int),18⟩) (at_set (by simpa using ht) _) (by kernel_rfl),
  (.more (cV (p:=tW n) (t:=t) (late:=false) (at_set (by simpa using ht) _) (i:=⟨16,6,7,0,0,1,0,0⟩) (A:=1+hIdx (k+1)) (c1:=⟨0,r1,r2,r3,r4,r5,0,((k+1:Nat):Int),19⟩) (xs1:=((s.xs.set (1+hIdx (k+1)) 0).set (2*n+2+hIdx (k+1)) 0).set 0 ((k+1:Nat):Int)) (wr:=false) (c2:=⟨0,r1,r2,r3,r4,r5,0,((k+1:Nat):Int),20⟩) (ms:= []) (dn:=(-1)) (jF (q:=18) rfl) (by decide) (by decide) (tY 1 (k+1) rfl rfl rfl (by omega) (by simp [dX,tW])) (sK rfl X3) (by kernel_rfl))
   (.more (cV (p:=tW n) (t:=t) (late:=false) (at_set (by simpa using ht) _) (i:=⟨19,4,0,7,0,0,0,0⟩) (A:=0) (c1:=⟨0,r1,r2,r3,1,r5,0,((k+1:Nat):Int),21⟩) (xs1:=(((s.xs.set (1+hIdx (k+1)) 0).set (2*n+2+hIdx (k+1)) 0).set 0 ((k+1:Nat):Int)).set 0 0) (wr:=true) (c2:=⟨0,r1,r2,r3,1,r5,0,((k+1:Nat):Int),23⟩) (ms:= [4]) (dn:=(-1)) (jF (q:=20) rfl) (by decide) (by decide) (gF 0 0 rfl rfl (by decide) rfl (by decide) rfl) (CM rfl X4) (by kernel_rfl))
   (.last (RC (p:=tW n) (late:=false) (i:=⟨23,0,7,0,0,0,0,0⟩) (h:=((k+1:Nat):Int)) (u:=t) (c2:=⟨0,r1,r2,r3,1,r5,0,((k+1:Nat):Int),24⟩) (ms:= []) (dn:=2) (at_set (by simpa using ht) _) (jF (q:=23) rfl) rfl rfl (by omega) (by show jT s.f ((k+1:Nat):Int) ((t:Int)+1) ((k+1:Nat):Int)=_;exact if_pos rfl) (by kernel_rfl)) (by decide)))),by decide⟩⟩,⟨fun x=>?_,by simp [hl],?_,by simp [hr.rl],fun u hu=>?_⟩,by simp⟩
 ·simp only [List.set_set]
  exact eZ (s:=s) hr.z rfl x
 ·rw [cP (by simp;omega)]
 ·have htr:t<s.rs.length:=by rw [hr.rl];omega
  dsimp only
  have hp:(tW n).m=2:=rfl
  have hq:(s.rs.set t (lB 2 (s.rs.getD t nP))).getD t nP=lB 2 (s.rs.getD t nP):=by rw [cK _ _ _ _ _ htr,if_pos rfl]
  rw [hp,List.set_set,hq,cK _ _ _ _ _ htr,Int.toNat_natCast]
  by_cases e:u=t
  ·rw [if_pos e]
   exact ⟨_,_,(fH.take hR).put1 _,hN1,Node.next k2 k3⟩
  ·rw [if_neg e]
   exact hr.rings u hu
def qF (u:Nat) (h:Int) (i:Nat):Prop:=∃ k:Nat,h=((k+1:Nat):Int)∧k+1<4294967296∧hIdx (k+1)=i∧(i=2*u+1∨i=2*u+2)
theorem qF.next {u:Nat} {k i:Nat} (h1:hIdx (k+1)=i) (h2:i=2*u+1∨i=2*u+2):qF u (eR (k+1):Int) i:=by
 have e:=AT (k+1)
 have hl:=xQ (k+1)
 have h3:hIdx (eR (k+1))≤eR (k+1):=by unfold hIdx;exact Nat.mod_le _ _
 refine ⟨eR (k+1) - 1,?_,?_,?_,h2⟩
 all_goals rw [Nat.sub_add_cancel (by omega)]
 ·exact hl
 ·omega
def R7 (u:Nat) (r:Rg):Prop:=∃ e0 e1 i j,fH r 2 e0 e1∧qF u e0 i∧qF u e1 j∧i≠j
def KG (u:Nat) (r:Rg) (o:Nat):Prop:=∃ e0 e1 i,fH r 1 e0 e1∧qF u e0 i∧i≠o
structure nA (n:Nat) (s:XS):Prop where
 z:oM s
 len:s.xs.length=2*n+2
 rl:s.rs.length=n
 w:∃ w:Nat,s.xs.getD 0 0=(w:Int)∧hIdx w≤2*n∧s.xs.getD (1+hIdx w) 0=1∧
  (w=0∧(∀ u,u<n→R7 u (s.rs.getD u nP))∨∃ v k,v<n∧w=k+1∧k+1<4294967296∧s.f (w:Int)=(v:Int)+1∧(hIdx w=2*v+1∨hIdx w=2*v+2)∧KG v (s.rs.getD v nP) (hIdx w)∧∀ u,u<n→u≠v→R7 u (s.rs.getD u nP))
def gH (n:Nat):dU:=⟨gR,0,24,[1,((n*2+1:Nat):Int)],(List.replicate (n*2+2) 0).set 1 1,2,List.replicate n 0⟩
theorem TN (n:Nat) (s:XS) (hr:nA n s) (t:Nat) (ht:t<s.cs.length) (hn:s.cs.length=n) (h64:n≤64) (w:Nat) (hx0:s.xs.getD 0 0=(w:Int)) (hwl:hIdx w≤2*n) (hx1:s.xs.getD (1+hIdx w) 0=1) (hw0:w=0) (hB:∀ u,u<n→R7 u (s.rs.getD u nP)):∃ x2,Lone (gH n) t s x2∧nA n x2∧x2.cs.length=s.cs.length:=by
 obtain ⟨r1,r2,r3,r4,r5,r6,r7,pc,hc⟩:=jA hr.z t
 obtain ⟨e0,e1,i,j,hR,⟨k,rfl,k1,rfl,k3⟩,hN1,hij⟩:=hB t (by omega)
 have hne:hIdx (k+1)≠hIdx w:=by subst hw0;show _≠0;omega
 have hl:=hr.len
 have X1:(s.xs.set (1+hIdx (k+1)) 0).getD 0 0=(w:Int):=by rw [bU (by omega)];exact hx0
 have X2:((s.xs.set (1+hIdx (k+1)) 0).set 0 ((k+1:Nat):Int)).getD (1+hIdx w) 0=1:=by rw [bU (by omega),bU (by omega)];exact hx1
 refine ⟨_,⟨⟨_,_,_,5,1,eN (c2:=⟨0,r1,r2,r3,r4,r5,r6,r7,0⟩) hc (by kernel_rfl),
  (.more (K5 (s:=⟨s.xs,s.rs,s.f,s.took,s.cs.set t ⟨0,r1,r2,r3,r4,r5,r6,r7,0⟩⟩) (p:=gH n) (late:=false) (i:=⟨22,7,0,0,0,0,0,0⟩) (r:=s.rs.getD t nP) (h:=((k+1:Nat):Int)) (c2:=⟨0,r1,r2,r3,r4,r5,r6,((k+1:Nat):Int),2⟩) (ms:= []) (dn:= -1) (at_set ht _) (jF (q:=0) rfl) rfl rfl (by rw [hR.n];decide) hR.head (by kernel_rfl))
   (.more (cV (p:=gH n) (t:=t) (late:=false) (at_set (by simpa using ht) _) (i:=⟨17,0,7,0,0,1,0,0⟩) (A:=1+hIdx (k+1)) (c1:=⟨0,r1,r2,r3,r4,r5,r6,((k+1:Nat):Int),3⟩) (xs1:=s.xs.set (1+hIdx (k+1)) 0) (wr:=true) (c2:=⟨0,r1,r2,r3,r4,r5,r6,((k+1:Nat):Int),3⟩) (ms:= []) (dn:=(-1)) (jF (q:=2) rfl) (by decide) (by decide) (tY 1 (k+1) rfl rfl rfl (by omega) (by simp [dX,gH])) (gG rfl) (by kernel_rfl))
   (.more (cV (p:=gH n) (t:=t) (late:=false) (at_set (by simpa using ht) _) (i:=⟨18,6,0,7,0,0,0,0⟩) (A:=0) (c1:=⟨0,r1,r2,r3,r4,r5,(w:Int),((k+1:Nat):Int),4⟩) (xs1:=(s.xs.set (1+hIdx (k+1)) 0).set 0 ((k+1:Nat):Int)) (wr:=true) (c2:=⟨0,1,r2,r3,r4,r5,(w:Int),((k+1:Nat):Int),6⟩) (ms:= [1]) (dn:=(-1)) (jF (q:=3) rfl) (by decide) (by decide) (gF 0 0 rfl rfl (by decide) rfl (by decide) rfl) (oT rfl X1) (by kernel_rfl))
   (.more (cV (p:=gH n) (t:=t) (late:=false) (at_set (by simpa using ht) _) (i:=⟨21,2,6,0,0,1,1,14⟩) (A:=1+hIdx w) (c1:=⟨0,1,1,r3,r4,r5,(w:Int),((k+1:Nat):Int),7⟩) (xs1:=(s.xs.set (1+hIdx (k+1)) 0).set 0 ((k+1:Nat):Int)) (wr:=false) (c2:=⟨0,1,1,r3,r4,r5,(w:Int),((k+1:Nat):Int),12⟩) (ms:= [2]) (dn:=(-1)) (jF (q:=6) rfl) (by decide) (by decide) (tY 1 w rfl rfl rfl (by omega) (by simp [dX,gH])) (qE rfl X2 (by kernel_rfl)) (by kernel_rfl))
   (.last (xfree0 (p:=gH n) (late:=false) (i:=⟨23,0,6,0,0,0,0,0⟩) (c2:=⟨0,1,1,r3,r4,r5,(w:Int),((k+1:Nat):Int),13⟩) (ms:= []) (dn:=1) (at_set (by simpa using ht) _) (jF (q:=12) rfl) rfl (by subst hw0;rfl) (by kernel_rfl)) (by decide)))))),by decide,
  eN (c2:=⟨0,1,1,r3,r4,r5,(w:Int),((k+1:Nat):Int),25⟩) (at_set (by simpa using ht) _) (by kernel_rfl),
  (.last (cV (p:=gH n) (t:=t) (late:=false) (at_set (by simpa using ht) _) (i:=⟨17,0,7,1,0,1,0,0⟩) (A:=1+hIdx (k+1)) (c1:=⟨0,1,1,r3,r4,r5,(w:Int),((k+1:Nat):Int),26⟩) (xs1:=((s.xs.set (1+hIdx (k+1)) 0).set 0 ((k+1:Nat):Int)).set (1+hIdx (k+1)) 1) (wr:=true) (c2:=⟨0,1,1,r3,r4,r5,(w:Int),((k+1:Nat):Int),27⟩) (ms:= [4]) (dn:=2) (jF (q:=25) rfl) (by decide) (by decide) (tY 1 (k+1) rfl rfl rfl (by omega) (by simp [dX,gH])) (gG rfl) (by kernel_rfl)) (by decide)),by decide⟩⟩,⟨fun x=>?_,by simp [hl],by simp [hr.rl],k+1,?_,by omega,?_,.inr ⟨t,k,by omega,rfl,k1,?_,k3,?_⟩⟩,by simp⟩
 ·simp only [List.set_set]
  exact eZ (s:=s) hr.z rfl x
 ·rw [bU (by omega),cP (by simp;omega)]
 ·rw [cP (by simp;omega)]
 ·exact if_pos rfl
 ·have htr:t<s.rs.length:=by rw [hr.rl];omega
  dsimp only
  refine ⟨?_,fun u hu hut=>?_⟩
  ·rw [cK _ _ _ _ _ htr,if_pos rfl]
   exact ⟨_,_,j,fH.take hR,hN1,fun e=>hij e.symm⟩
  ·rw [cK _ _ _ _ _ htr,if_neg hut]
   exact hB u hu
theorem QK (n:Nat) (s:XS) (hr:nA n s) (t:Nat) (ht:t<s.cs.length) (hn:s.cs.length=n) (h64:n≤64) (w:Nat) (hx0:s.xs.getD 0 0=(w:Int)) (hwl:hIdx w≤2*n) (hx1:s.xs.getD (1+hIdx w) 0=1) (v q:Nat) (hv:v<n) (hw:w=q+1) (hq:q+1<4294967296) (hf:s.f (w:Int)=(v:Int)+1) (hwi:hIdx w=2*v+1∨hIdx w=2*v+2) (hS:KG v (s.rs.getD v nP) (hIdx w)) (hB:∀ u,u<n→u≠v→R7 u (s.rs.getD u nP)) (htv:t≠v):∃ x2,Lone (gH n) t s x2∧nA n x2∧x2.cs.length=s.cs.length:=by
 obtain ⟨r1,r2,r3,r4,r5,r6,r7,pc,hc⟩:=jA hr.z t
 obtain ⟨e0,e1,i,j,hR,⟨k,rfl,k1,rfl,k3⟩,hN1,hij⟩:=hB t (by omega) htv
 have hne:hIdx (k+1)≠hIdx w:=by omega
 have hkw:k+1≠w:=fun e=>hne (by rw [e])
 have hl:=hr.len
 have X1:(s.xs.set (1+hIdx (k+1)) 0).getD 0 0=(w:Int):=by rw [bU (by omega)];exact hx0
 have X2:((s.xs.set (1+hIdx (k+1)) 0).set 0 ((k+1:Nat):Int)).getD (1+hIdx w) 0=1:=by rw [bU (by omega),bU (by omega)];exact hx1
 refine ⟨_,⟨⟨_,_,_,5,1,eN (c2:=⟨0,r1,r2,r3,r4,r5,r6,r7,0⟩) hc (by kernel_rfl),
  (.more (K5 (s:=⟨s.xs,s.rs,s.f,s.took,s.cs.set t ⟨0,r1,r2,r3,r4,r5,r6,r7,0⟩⟩) (p:=gH n) (late:=false) (i:=⟨22,7,0,0,0,0,0,0⟩) (r:=s.rs.getD t nP) (h:=((k+1:Nat):Int)) (c2:=⟨0,r1,r2,r3,r4,r5,r6,((k+1:Nat):Int),2⟩) (ms:= []) (dn:= -1) (at_set ht _) (jF (q:=0) rfl) rfl rfl (by rw [hR.n];decide) hR.head (by kernel_rfl))
   (.more (cV (p:=gH n) (t:=t) (late:=false) (at_set (by simpa using ht) _) (i:=⟨17,0,7,0,0,1,0,0⟩) (A:=1+hIdx (k+1)) (c1:=⟨0,r1,r2,r3,r4,r5,r6,((k+1:Nat):Int),3⟩) (xs1:=s.xs.set (1+hIdx (k+1)) 0) (wr:=true) (c2:=⟨0,r1,r2,r3,r4,r5,r6,((k+1:Nat):Int),3⟩) (ms:= []) (dn:=(-1)) (jF (q:=2) rfl) (by decide) (by decide) (tY 1 (k+1) rfl rfl rfl (by omega) (by simp [dX,gH])) (gG rfl) (by kernel_rfl))
   (.more (cV (p:=gH n) (t:=t) (late:=false) (at_set (by simpa using ht) _) (i:=⟨18,6,0,7,0,0,0,0⟩) (A:=0) (c1:=⟨0,r1,r2,r3,r4,r5,(w:Int),((k+1:Nat):Int),4⟩) (xs1:=(s.xs.set (1+hIdx (k+1)) 0).set 0 ((k+1:Nat):Int)) (wr:=true) (c2:=⟨0,1,r2,r3,r4,r5,(w:Int),((k+1:Nat):Int),6⟩) (ms:= [1]) (dn:=(-1)) (jF (q:=3) rfl) (by decide) (by decide) (gF 0 0 rfl rfl (by decide) rfl (by decide) rfl) (oT rfl X1) (by kernel_rfl))
   (.more (cV (p:=gH n) (t:=t) (late:=false) (at_set (by simpa using ht) _) (i:=⟨21,2,6,0,0,1,1,14⟩) (A:=1+hIdx w) (c1:=⟨0,1,1,r3,r4,r5,(w:Int),((k+1:Nat):Int),7⟩) (xs1:=(s.xs.set (1+hIdx (k+1)) 0).set 0 ((k+1:Nat):Int)) (wr:=false) (c2:=⟨0,1,1,r3,r4,r5,(w:Int),((k+1:Nat):Int),12⟩) (ms:= [2]) (dn:=(-1)) (jF (q:=6) rfl) (by decide) (by decide) (tY 1 w rfl rfl rfl (by omega) (by simp [dX,gH])) (qE rfl X2 (by kernel_rfl)) (by kernel_rfl))
   (.last (RC (p:=gH n) (late:=false) (i:=⟨23,0,6,0,0,0,0,0⟩) (h:=(w:Int)) (u:=v) (c2:=⟨0,1,1,r3,r4,r5,(w:Int),((k+1:Nat):Int),13⟩) (ms:= []) (dn:=1) (at_set (by simpa using ht) _) (jF (q:=12) rfl) rfl rfl (by omega) (by show jT s.f ((k+1:Nat):Int) ((t:Int)+1) (w:Int)=_;exact (if_neg (by omega)).trans hf) (by kernel_rfl)) (by decide)))))),by decide,
  eN (c2:=⟨0,1,1,r3,r4,r5,(w:Int),((k+1:Nat):Int),25⟩) (at_set (by simpa using ht) _) (by kernel_rfl),
  (.last (cV (p:=gH n) (t:=t) (late:=false) (at_set (by simpa using ht) _) (i:=⟨17,0,7,1,0,1,0,0⟩) (A:=1+hIdx (k+1)) (c1:=⟨0,1,1,r3,r4,r5,(w:Int),((k+1:Nat):Int),26⟩) (xs1:=((s.xs.set (1+hIdx (k+1)) 0).set 0 ((k+1:Nat):Int)).set (1+hIdx (k+1)) 1) (wr:=true) (c2:=⟨0,1,1,r3,r4,r5,(w:Int),((k+1:Nat):Int),27⟩) (ms:= [4]) (dn:=2) (jF (q:=25) rfl) (by decide) (by decide) (tY 1 (k+1) rfl rfl rfl (by omega) (by simp [dX,gH])) (gG rfl) (by kernel_rfl)) (by decide)),by decide⟩⟩,⟨fun x=>?_,by simp [hl],by simp [hr.rl],k+1,?_,by omega,?_,.inr ⟨t,k,by omega,rfl,k1,?_,k3,?_⟩⟩,by simp⟩
 ·simp only [List.set_set]
  exact eZ (s:=s) hr.z rfl x
 ·rw [bU (by omega),cP (by simp;omega)]
 ·rw [cP (by simp;omega)]
 ·show jT (jT s.f _ _) _ _ _=_
  exact (if_neg (by omega)).trans (if_pos rfl)
 ·have htr:t<s.rs.length:=by rw [hr.rl];omega
  have hvr:v<(s.rs.set t (lB 2 (s.rs.getD t nP))).length:=by rw [List.length_set,hr.rl];exact hv
  have hp:(gH n).m=2:=rfl
  dsimp only
  rw [hp]
  have hrv:(s.rs.set t (lB 2 (s.rs.getD t nP))).getD v nP=s.rs.getD v nP:=by rw [cK _ _ _ _ _ htr,if_neg (fun e=>htv e.symm)]
  rw [hrv,Int.toNat_natCast]
  refine ⟨?_,fun u hu hut=>?_⟩
  ·rw [cK _ _ _ _ _ hvr,if_neg htv,cK _ _ _ _ _ htr,if_pos rfl]
   exact ⟨_,_,j,fH.take hR,hN1,fun e=>hij e.symm⟩
  ·rw [cK _ _ _ _ _ hvr]
   by_cases e:u=v
   ·rw [if_pos e]
    subst e
    obtain ⟨a0,a1,i2,hR2,hN2,hi2⟩:=hS
    subst hw
    exact ⟨_,_,i2,_,hR2.put1 _,hN2,qF.next rfl hwi,hi2⟩
   ·rw [if_neg e,cK _ _ _ _ _ htr,if_neg hut]
    exact hB u hu e
theorem RF (n:Nat) (s:XS) (hr:nA n s) (t:Nat) (ht:t<s.cs.length) (hn:s.cs.length=n) (h64:n≤64) (w:Nat) (hx0:s.xs.getD 0 0=(w:Int)) (hwl:hIdx w≤2*n) (hx1:s.xs.getD (1+hIdx w) 0=1) (v q:Nat) (hv:v<n) (hw:w=q+1) (hq:q+1<4294967296) (hf:s.f (w:Int)=(v:Int)+1) (hwi:hIdx w=2*v+1∨hIdx w=2*v+2) (hS:KG v (s.rs.getD v nP) (hIdx w)) (hB:∀ u,u<n→u≠v→R7 u (s.rs.getD u nP)) (htv:t=v):∃ x2,Lone (gH n) t s x2∧nA n x2∧x2.cs.length=s.cs.length:=by
 obtain ⟨r1,r2,r3,r4,r5,r6,r7,pc,hc⟩:=jA hr.z t
 subst htv
 obtain ⟨e0,e1,i,hR,⟨k,rfl,k1,rfl,k3⟩,hij⟩:=hS
 have hne:hIdx (k+1)≠hIdx w:=hij
 have hkw:k+1≠w:=fun e=>hne (by rw [e])
 have hl:=hr.len
 have X1:(s.xs.set (1+hIdx (k+1)) 0).getD 0 0=(w:Int):=by rw [bU (by omega)];exact hx0
 have X2:((s.xs.set (1+hIdx (k+1)) 0).set 0 ((k+1:Nat):Int)).getD (1+hIdx w) 0=1:=by rw [bU (by omega),bU (by omega)];exact hx1
 refine ⟨_,⟨⟨_,_,_,5,1,eN (c2:=⟨0,r1,r2,r3,r4,r5,r6,r7,0⟩) hc (by kernel_rfl),
  (.more (K5 (s:=⟨s.xs,s.rs,s.f,s.took,s.cs.set t ⟨0,r1,r2,r3,r4,r5,r6,r7,0⟩⟩) (p:=gH n) (late:=false) (i:=⟨22,7,0,0,0,0,0,0⟩) (r:=s.rs.getD t nP) (h:=((k+1:Nat):Int)) (c2:=⟨0,r1,r2,r3,r4,r5,r6,((k+1:Nat):Int),2⟩) (ms:= []) (dn:= -1) (at_set ht _) (jF (q:=0) rfl) rfl rfl (by rw [hR.n];decide) hR.head (by kernel_rfl))
   (.more (cV (p:=gH n) (t:=t) (late:=false) (at_set (by simpa using ht) _) (i:=⟨17,0,7,0,0,1,0,0⟩) (A:=1+hIdx (k+1)) (c1:=⟨0,r1,r2,r3,r4,r5,r6,((k+1:Nat):Int),3⟩) (xs1:=s.xs.set (1+hIdx (k+1)) 0) (wr:=true) (c2:=⟨0,r1,r2,r3,r4,r5,r6,((k+1:Nat):Int),3⟩) (ms:= []) (dn:=(-1)) (jF (q:=2) rfl) (by decide) (by decide) (tY 1 (k+1) rfl rfl rfl (by omega) (by simp [dX,gH])) (gG rfl) (by kernel_rfl))
   (.more (cV (p:=gH n) (t:=t) (late:=false) (at_set (by simpa using ht) _) (i:=⟨18,6,0,7,0,0,0,0⟩) (A:=0) (c1:=⟨0,r1,r2,r3,r4,r5,(w:Int),((k+1:Nat):Int),4⟩) (xs1:=(s.xs.set (1+hIdx (k+1)) 0).set 0 ((k+1:Nat):Int)) (wr:=true) (c2:=⟨0,1,r2,r3,r4,r5,(w:Int),((k+1:Nat):Int),6⟩) (ms:= [1]) (dn:=(-1)) (jF (q:=3) rfl) (by decide) (by decide) (gF 0 0 rfl rfl (by decide) rfl (by decide) rfl) (oT rfl X1) (by kernel_rfl))
   (.more (cV (p:=gH n) (t:=t) (late:=false) (at_set (by simpa using ht) _) (i:=⟨21,2,6,0,0,1,1,14⟩) (A:=1+hIdx w) (c1:=⟨0,1,1,r3,r4,r5,(w:Int),((k+1:Nat):Int),7⟩) (xs1:=(s.xs.set (1+hIdx (k+1)) 0).set 0 ((k+1:Nat):Int)) (wr:=false) (c2:=⟨0,1,1,r3,r4,r5,(w:Int),((k+1:Nat):Int),12⟩) (ms:= [2]) (dn:=(-1)) (jF (q:=6) rfl) (by decide) (by decide) (tY 1 w rfl rfl rfl (by omega) (by simp [dX,gH])) (qE rfl X2 (by kernel_rfl)) (by kernel_rfl))
   (.last (RC (p:=gH n) (late:=false) (i:=⟨23,0,6,0,0,0,0,0⟩) (h:=(w:Int)) (u:=t) (c2:=⟨0,1,1,r3,r4,r5,(w:Int),((k+1:Nat):Int),13⟩) (ms:= []) (dn:=1) (at_set (by simpa using ht) _) (jF (q:=12) rfl) rfl rfl (by omega) (by show jT s.f ((k+1:Nat):Int) ((t:Int)+1) (w:Int)=_;exact (if_neg (by omega)).trans hf) (by kernel_rfl)) (by decide)))))),by decide,
  eN (c2:=⟨0,1,1,r3,r4,r5,(w:Int),((k+1:Nat):Int),25⟩) (at_set (by simpa using ht) _) (by kernel_rfl),
  (.last (cV (p:=gH n) (t:=t) (late:=false) (at_set (by simpa using ht) _) (i:=⟨17,0,7,1,0,1,0,0⟩) (A:=1+hIdx (k+1)) (c1:=⟨0,1,1,r3,r4,r5,(w:Int),((k+1:Nat):Int),26⟩) (xs1:=((s.xs.set (1+hIdx (k+1)) 0).set 0 ((k+1:Nat):Int)).set (1+hIdx (k+1)) 1) (wr:=true) (c2:=⟨0,1,1,r3,r4,r5,(w:Int),((k+1:Nat):Int),27⟩) (ms:= [4]) (dn:=2) (jF (q:=25) rfl) (by decide) (by decide) (tY 1 (k+1) rfl rfl rfl (by omega) (by simp [dX,gH])) (gG rfl) (by kernel_rfl)) (by decide)),by decide⟩⟩,⟨fun x=>?_,by simp [hl],by simp [hr.rl],k+1,?_,by omega,?_,.inr ⟨t,k,by omega,rfl,k1,?_,k3,?_⟩⟩,by simp⟩
 ·simp only [List.set_set]
  exact eZ (s:=s) hr.z rfl x
 ·rw [bU (by omega),cP (by simp;omega)]
 ·rw [cP (by simp;omega)]
 ·show jT (jT s.f _ _) _ _ _=_
  exact (if_neg (by omega)).trans (if_pos rfl)
 ·have htr:t<s.rs.length:=by rw [hr.rl];omega
  have hp:(gH n).m=2:=rfl
  dsimp only
  rw [hp]
  have hrv:(s.rs.set t (lB 2 (s.rs.getD t nP))).getD t nP=lB 2 (s.rs.getD t nP):=by rw [cK _ _ _ _ _ htr,if_pos rfl]
  rw [hrv,Int.toNat_natCast,List.set_set]
  refine ⟨?_,fun u hu hut=>?_⟩
  ·rw [cK _ _ _ _ _ htr,if_pos rfl]
   subst hw
   exact ⟨_,_,_,(fH.take hR).put0 _,qF.next rfl hwi,fun e=>hne e.symm⟩
  ·rw [cK _ _ _ _ _ htr,if_neg hut]
   exact hB u hu hut
theorem W8 (n:Nat) (s:XS) (hr:nA n s) (t:Nat) (ht:t<s.cs.length) (hn:s.cs.length=n) (h64:n≤64):∃ x2,Lone (gH n) t s x2∧nA n x2∧x2.cs.length=s.cs.length:=by
 obtain ⟨w,hx0,hwl,hx1,⟨hw0,hB⟩|⟨v,q,hv,hw,hq,hf,hwi,hS,hB⟩⟩:=hr.w
 ·exact TN n s hr t ht hn h64 w hx0 hwl hx1 hw0 hB
 ·by_cases e:t=v
  ·exact RF n s hr t ht hn h64 w hx0 hwl hx1 v q hv hw hq hf hwi hS hB e
  ·exact QK n s hr t ht hn h64 w hx0 hwl hx1 v q hv hw hq hf hwi hS hB e
def SS (p:dU) (n:Nat) (I:XS→Prop):Prop:=∀ (s:XS) (t:Nat),I s→t<s.cs.length→s.cs.length=n→∃ x2,Lone p t s x2∧I x2∧x2.cs.length=s.cs.length
structure Still (n:Nat) (I:XS→Prop) (s:MS):Prop where
 x:I s.x
 cs:s.x.cs.length=n
 th:s.th.length=n
 up:kN s
 st:∀ u,(s.th.getD u dE).state=0
 now:s.now=0
theorem J3 {p:dU} {n:Nat} {I:XS→Prop} (hI:SS p n I) {spin:Int} {tr:Bool} {s:MS} (h:Still n I s) (t:Nat) (ht:t<n):Still n I (kY p spin tr s t)∧(kY p spin tr s t).seen=s.seen++seven t 0:=by
 obtain ⟨x2,hL,hx2,hl⟩:=hI s.x t h.x (by rw [h.cs];exact ht) h.cs
 obtain ⟨h1,h2,h3,h4,h5,h6⟩:=PH p spin tr s t (by rw [h.th];exact ht) h.up h.st hL
 exact ⟨⟨by rw [h1];exact hx2,by rw [h1,hl];exact h.cs,by rw [h4];exact h.th,h3,h6,by rw [h2];exact h.now⟩,by rw [h5,h.now]⟩
def rR (p:dU) (spin:Int) (tr:Bool) (n:Nat) (who:List Int) (s:MS):MS:=who.foldl (fun s x=>kY p spin tr s (x.toNat % n)) s
theorem A6 (p:dU) (spin:Int) (tr:Bool) (n:Nat) (x:Int) (who:List Int) (s:MS):rR p spin tr n (x :: who) s=rR p spin tr n who (kY p spin tr s (x.toNat % n)):=by
 unfold rR
 rw [List.foldl_cons]
theorem O7 (p:dU) (spin:Int) (tr:Bool) (n:Nat) (who:List Int) (k:Nat) (hk:k<who.length) (s:MS):rR p spin tr n (who.take (k+1)) s=kY p spin tr (rR p spin tr n (who.take k) s) ((who[k]).toNat % n):=by
 unfold rR
 rw [List.take_succ_eq_append_getElem hk,List.foldl_append]
 rfl
def mV (n:Nat) (who:List Int):List LP:=who.flatMap (fun x=>seven ((x.toNat % n:Nat):Int) 0)
theorem yF (n:Nat) (who:List Int):(mV n who).length=7*who.length:=by
 unfold mV
 induction who with
 |nil=>rfl
 |cons x l ih=>rw [List.flatMap_cons,List.length_append,ih];simp [seven];omega
theorem zR {p:dU} {n:Nat} (n1:1≤n) {I:XS→Prop} (hI:SS p n I) {spin:Int} {tr:Bool} :∀ (who:List Int) (s:MS),Still n I s→Still n I (rR p spin tr n who s)∧(rR p spin tr n who s).seen=s.seen++mV n who
 | [],s,h=>⟨h,by simp [rR,mV]⟩
 |x :: who,s,h=>by
  obtain ⟨h1,h2⟩:=J3 hI (spin:=spin) (tr:=tr) h (x.toNat % n) (Nat.mod_lt _ (by omega))
  obtain ⟨h3,h4⟩:=zR n1 hI (spin:=spin) (tr:=tr) who _ h1
  rw [A6]
  refine ⟨h3,?_⟩
  rw [h4,h2]
  simp [mV]
theorem mK (p:dU) (spin:Int) (tr:Bool) (t:Nat):∀ (n:Nat) (s:MS),fJ p spin tr t (n+1) s=(nO p spin tr (fJ p spin tr t n s) 1 t 0).2
 |0,s=>by simp only [fJ]
 |n+1,s=>by
  show fJ p spin tr t (n+1) (nO p spin tr s 1 t 0).2=(nO p spin tr (fJ p spin tr t n (nO p spin tr s 1 t 0).2) 1 t 0).2
  exact mK p spin tr t n (nO p spin tr s 1 t 0).2
theorem l9 {p:dU} {N:Nat} {spin:Int} {tr:Bool} {t:Nat} (sp:1≤spin∧spin≤1000):∀ (n:Nat) (s:MS),lG p N s→lG p (N+n) (fJ p spin tr t n s)
 |0,s,h=>h
 |n+1,s,h=>by
  rw [mK]
  exact (l9 sp n s h).nO sp
theorem XD {p:dU} {N:Nat} {spin:Int} {tr:Bool} {t:Nat} (sp:1≤spin∧spin≤1000) {s:MS} (h:lG p N s):lG p (N+12) (kY p spin tr s t):=by
 unfold kY
 exact l9 sp 4 _ ((l9 sp 6 _ (h.nO sp)).nO sp)
theorem S8 {p:dU} {spin:Int} {tr:Bool} (sp:1≤spin∧spin≤1000) (n:Nat):∀ (who:List Int) (N:Nat) (s:MS),lG p N s→lG p (N+12*who.length) (rR p spin tr n who s)
 | [],N,s,h=>h
 |x :: who,N,s,h=>by
  have h1:=S8 (tr:=tr) sp n who _ _ (XD (t:=x.toNat % n) (tr:=tr) sp h)
  rw [A6]
  rw [show N+12*(x :: who).length=N+12+12*who.length by simp;omega]
  exact h1
theorem MQ {p:dU} {rs:List Rg} {I:XS→Prop} (hI:I (JN p rs)):Still p.r7.length I (VM p rs):=by
 refine ⟨hI,by simp [VM,JN],by simp [VM],fun u=>?_,fun u=>?_,rfl⟩
 ·show ((List.replicate p.r7.length (⟨0,-1⟩:Sl)).getD u rP).addr= -1
  rw [List.getD_eq_getElem?_getD,List.getElem?_replicate]
  split <;> rfl
 ·show ((List.replicate p.r7.length dE).getD u dE).state=0
  rw [List.getD_eq_getElem?_getD,List.getElem?_replicate]
  split <;> rfl
theorem jG {p:dU} {rs:List Rg} :oM (JN p rs):=fun u=>by
 show ((p.r7.map cz).getD u Cr.zero).r0=0
 rw [List.getD_eq_getElem?_getD,List.getElem?_map]
 cases p.r7[u]? <;> rfl
theorem jS (n i:Nat) (v:Int):(List.replicate n v).getD i v=v:=by
 rw [List.getD_eq_getElem?_getD,List.getElem?_replicate]
 split <;> rfl
theorem E9 {n:Nat} {rs:List Rg} (hN:eH 2 rs) (hl:rs.length=n) (u:Nat) (hu:u<n):fH (rs.getD u nP) 2 ((2*u+1:Nat):Int) ((2*u+2:Nat):Int):=by
 have h1:u<rs.length:=by omega
 rw [getD_at h1]
 obtain ⟨h2,h3,h4⟩:=hN u rs[u] (List.getElem?_eq_getElem h1)
 refine ⟨by omega,h3,?_⟩
 rw [h4,if_pos h2,show u*2=2*u by omega]
 unfold fN
 simp [List.range_succ]
 omega
theorem JU (n:Nat) (n1:1≤n) (n64:n≤64) (k:Nat) (k1:1≤k) (k8:k≤8):∃ p I,eA ⟨(k:Int),n,64,2,1,0⟩ p∧p.r7.length=n∧SS p n I∧∀ rs:List Rg,rs.length=p.r7.length→eH p.m rs→I (JN p rs):=by
 rcases (by omega:k=1∨k=2∨k=3∨k=4∨k=5∨k=6∨k=7∨k=8) with rfl|rfl|rfl|rfl|rfl|rfl|rfl|rfl
 ·refine ⟨_,pY,eA.ticket n 0 64 2 1 n1 n64,by simp,fun x t h ht _=>FE n 0 x h t ht,fun rs _ _=>⟨jG,0,by decide,by decide,rfl⟩⟩
 ·refine ⟨_,CR,eA.anderson n 6 0 2 1 n1 n64 (by decide) (by omega) (by decide),by simp,fun x t h ht _=>Q3 n x h t ht,fun rs _ _=>⟨jG,rfl,0,by decide,rfl,rfl⟩⟩
 ·refine ⟨_,ID n,eA.graunke n 64 2 1 0 n1 n64,by simp,fun x t h ht hn=>YX n x h t ht hn n64,fun rs _ _=>⟨jG,by simp [JN],fun u hu=>?_,n,0,Nat.le_refl _,by decide,?_,?_⟩⟩
  ·show ∃ v:Nat,v<2∧(((List.replicate (n+2) (0:Int)).set 0 (2*(n:Int))).set (n+1) 1).getD (1+u) 0=(v:Int)
   by_cases e:u=n
   ·subst e
    exact ⟨1,by decide,by rw [Nat.add_comm 1 u,cP (by simp)];rfl⟩
   ·exact ⟨0,by decide,by rw [bU (by omega),bU (by omega),jS];rfl⟩
  ·show (((List.replicate (n+2) (0:Int)).set 0 (2*(n:Int))).set (n+1) 1).getD 0 0=_
   rw [bU (by omega),cP (by simp)]
   omega
  ·show (((List.replicate (n+2) (0:Int)).set 0 (2*(n:Int))).set (n+1) 1).getD (1+n) 0≠_
   rw [Nat.add_comm 1 n,cP (by simp)]
   decide
 ·refine ⟨_,DU n,eA.clh n 64 2 1 0 n1 n64,by simp [nN],fun x t h ht hn=>VD n x h t ht hn n64,fun rs _ _=>⟨jG,by simp [JN],0,fun u=>u+1,Nat.zero_le _,jS _ _ _,jS _ _ _,fun u hu=>⟨?_,by show u+1≤n;omega,by show u+1≠0;omega⟩,fun u v _ _ e=>by have e:u+1=v+1:=e;omega⟩⟩
  show (((nN n).map cz).getD u Cr.zero).r7=_
  unfold nN
  rw [List.getD_eq_getElem?_getD,List.getElem?_map,List.getElem?_map,List.getElem?_range hu]
  rfl
 ·refine ⟨_,DR n,eA.mcs n 64 2 1 0 n1 n64,by simp,fun x t h ht hn=>RY n x h t ht hn n64,fun rs _ _=>⟨jG,jS _ _ _,by simp [JN]⟩⟩
 ·refine ⟨_,DH n,eA.k42 n 64 2 1 0 n1 n64,by simp,fun x t h ht hn=>UN n x h t ht hn n64,fun rs _ _=>⟨jG,jS _ _ _,jS _ _ _,by simp [JN]⟩⟩
 ·refine ⟨_,nA n,eA.clhtry n 2 64 1 0 n1 n64 (by decide) (by decide),by simp,fun x t h ht hn=>W8 n x h t ht hn n64,fun rs hrl hN=>?_⟩
  have hrl:rs.length=n:=by rw [hrl];simp
  refine ⟨jG,by simp [JN];omega,hrl,0,?_,Nat.zero_le _,?_,.inl ⟨rfl,fun u hu=>?_⟩⟩
  ·show ((List.replicate (n*2+2) (0:Int)).set 1 1).getD 0 0=_
   rw [bU (by omega),jS]
   rfl
  ·show ((List.replicate (n*2+2) (0:Int)).set 1 1).getD (1+0) 0=1
   rw [cP (by simp)]
  ·refine ⟨_,_,2*u+1,2*u+2,E9 hN hrl u hu,⟨2*u,rfl,by omega,?_,.inl rfl⟩,⟨2*u+1,rfl,by omega,?_,.inr rfl⟩,by omega⟩
   ·unfold hIdx;omega
   ·unfold hIdx;omega
 ·refine ⟨_,JW n,eA.mcstry n 2 64 1 0 n1 n64 (by decide) (by decide),by simp,fun x t h ht hn=>YP n x h t ht hn n64,fun rs hrl hN=>?_⟩
  have hrl:rs.length=n:=by rw [hrl];simp
  refine ⟨jG,by simp [JN];omega,jS _ _ _,hrl,fun u hu=>⟨_,_,E9 hN hrl u hu,⟨2*u,rfl,by omega,?_,?_⟩,⟨2*u+1,rfl,by omega,?_,?_⟩⟩⟩
  all_goals unfold hIdx;omega
theorem RP {W:World} {g:Nat} {l:List H9} (h:W.heap[g]?=some (.cells (dY l) 86 (0,0))) (t:Nat) (ht:t<l.length):W.cell? ⟨g,t*3,none⟩=some (.int .i64 l[t].state)∧W.cell? ⟨g,t*3+1,none⟩=some (.int .i64 l[t].deadline)∧W.cell? ⟨g,t*3+2,none⟩=some (.int .i64 l[t].steps):=
 ⟨(aC h (t*3+0)).trans (iW l t 0 ht (by decide)),(aC h (t*3+1)).trans (iW l t 1 ht (by decide)),(aC h (t*3+2)).trans (iW l t 2 ht (by decide))⟩
theorem QV (b:XB) (p:dU) (s:XS) (t:Nat) (u:Bool) (w:World) (h:jQ w b p s) (ho:sP p s) (ht:t<s.cs.length):
  Calls Tryz.prog 74 #[.pointer (some ⟨b.be,0,none⟩),.int .i64 (t:Int),.bool u] w fun e w'=>
   ∃ v,e= .returned (.agg #[v,.int .i64 (dH p s t ((s.cs.getD t Cr.zero).goto (if u then p.un else p.lo)) (-1) false).1.dn,.int .i64 (-1),.bool false,.bool false,.int .i64 (dH p s t ((s.cs.getD t Cr.zero).goto (if u then p.un else p.lo)) (-1) false).1.er])∧Kd.R (Kd.int .i64) 3 w' w.heap.size (fun _=>True) v (dH p s t ((s.cs.getD t Cr.zero).goto (if u then p.un else p.lo)) (-1) false).1.marks∧Mod (oJ b s) w w'∧jQ w' b p (dH p s t ((s.cs.getD t Cr.zero).goto (if u then p.un else p.lo)) (-1) false).2:=by
 unfold dH
 rw [getD_at ht]
 have h64:s.cs.length≤64:=by have:=ho.nc;have:=ho.good.n64;omega
 refine (zM b.be b.gk b.capl b.bm b.bp b.A p.l p.lo p.un s.cs t u _ w h.bI (Kd.dC h.code).2.2 (Kd.dC h.code).2.1 ho.good.l64 (fun i hi=>(ho.ins i hi).ok) h.cores ht h64 (ho.cs _ (List.getElem_mem ht)) rfl).mono ?_
 rintro e w' ⟨v,rfl,hR,hm,hg⟩
 exact ⟨v,rfl,hR,hm.mono (fun q _ hq=> .inr (.inl hq)),h.core hm hg (by simp)⟩
theorem pZ (b:MB) (p:dU) (N:Nat) (s:MS) (t:Nat) (k st dl:Int) (w:World) (h:MW w b p s) (ho:lG p N s) (hN:N≤1000000) (hl:gD w) (ht:t<s.th.length):
  Calls Tryz.prog 37 #[.pointer (some ⟨b.bm,0,none⟩),.int .i64 (t:Int),.int .i64 k,.int .i64 st,.int .i64 dl] w fun e w'=>e= .returned (.tuple #[])∧Kept b.B w w'∧MW w' b p (gL p s t k st dl):=by
 have H:=aA.mk h
 have HO:=aA.mk ho
 have HL:=aA.mk hl
 have HT:=aA.mk (⟨ht,hN⟩:t<s.th.length∧N≤1000000)
 clear h ho hl ht hN
 go_enter Tryz.func37,Tryz.ntmps37
 go_wp2_with (go_at_call 73;refine (oR b p s k t w H.out (by have:=HO.out.seen;have:=HT.out;omega)).mono ?_;rintro e w9 ⟨rfl,hk,hm⟩;have HK:=aA.mk hk;have HM:=aA.mk hm;clear hk hm)
 obtain ⟨v9,HV0⟩:=HM.out
 have HV:=aA.mk HV0
 have hth:(cM s k t).th=s.th:=rfl
 have hS:∃ S,S=cM s k t:=⟨_,rfl⟩
 obtain ⟨S,hS⟩:=hS
 have hts:t<S.th.length:=by rw [hS];exact HT.out.1
 have HSS:=aA.mk hS
 have HCF:aA (bP (cM s k t) t ⟨st,dl,(s.th.getD t dE).steps⟩=bP S t ⟨st,dl,S.th[t].steps⟩):=⟨by subst hS;unfold bP;rw [getD_at HT.out.1];rfl⟩
 rw [← hS] at HV
 have j0:(0:Int)≤(t:Int):=by omega
 have j1:(t:Int)<(S.th.length:Int):=by omega
 have j2:(S.th.length:Int)≤64:=by rw [hS,hth];have:=HO.out.nth;have:=HO.out.code.g.n64;omega
 clear hS hth HV0 HM
 have nb:=aA.mk HV.out.bI
 go_wp2_with fail

 refine dB (n:=18) (S:=fun w'=>w'.heap[b.bm]?=some (.cells #[.pointer (some ⟨b.x.be,0,none⟩),.pointer (some ⟨b.bw,0,none⟩),.bool b.tr,.slice (some ⟨b.gl,0,none⟩) S.th.length S.th.length,.int .i64 S.now,v9] 76 (0,0))) (ds:= [14,17]) #[false,false,false,false,false,false,false,false,false,false,false,false,false,false,false,false,false,false] (by kernel_rfl) rfl rfl nb.out (fun hHeld=>?_)
 replace nb:=aA.mk (drew_ nb.out)
 replace HV:=aA.mk (HV.out.below (bG (Below.refl _ _)))
 replace HK:=aA.mk (HK.out.drew)
 generalize w9.drew=w2 at nb HV HK hHeld ⊢
 refine pur_ 0 14 ?_
 refine pur_ 1 15 ?_
 refine pur_ 2 16 ?_
 refine pur_ 4 18 ?_
 refine pur_ 5 19 ?_
 refine pur_ 6 20 ?_
 refine pur_ 7 21 ?_
 refine pur_ 9 23 ?_
 refine pur_ 10 24 ?_
 refine pur_ 11 25 ?_
 refine tak_ 3 17 (.slice (some ⟨b.gl,0,none⟩) S.th.length S.th.length) ?_ hHeld ?_
 ·intro w' hS
  have c3:=(aC hS 3).trans rfl
  clear hHeld hS
  go_simp
 refine tak_ 8 22 (.slice (some ⟨b.gl,0,none⟩) S.th.length S.th.length) ?_ hHeld ?_
 ·intro w' hS
  have c3:=(aC hS 3).trans rfl
  clear hHeld hS
  go_simp
 refine pur_ 12 26 ?_
 refine pur_ 13 27 ?_

 refine fX (i:=14) (N:=none) #[true,true,true,true,true,true,true,true,true,true,true,true,true,true,true,false,false,false] rfl rfl (by kernel_rfl) (by decide) (fun K hK=>?_)
 refine iH (w1:=w2.setCell ⟨b.gl,t*3,none⟩ (.int .i64 st)) (by rfl) rfl ?_ ?_
 ·clear hK hHeld
  obtain ⟨c0,c1,c2⟩:=RP HV.out.qC t hts
  have f0:=aG HV.out.qC (t*3)
  go_simp
 replace HK:=aA.mk (HK.out.trans (Kept.qC HV.out ((Mod.refl (fun q=>q=b.gl) w2).setCell (p:=⟨b.gl,t*3,none⟩) rfl (.int .i64 st))))
 replace HV:=aA.mk (show MV (w2.setCell ⟨b.gl,t*3,none⟩ (.int .i64 st)) b p (bP S t ⟨st,S.th[t].deadline,S.th[t].steps⟩) v9 from HV.out.EI t 0 (.int .i64 st) ⟨st,S.th[t].deadline,S.th[t].steps⟩ hts (by decide) rfl)
 clear nb hHeld
 generalize w2.setCell ⟨b.gl,t*3,none⟩ (.int .i64 st)=w3 at HV HK ⊢
 refine hK.out _ _ ?_
 clear hK K
 refine pur_ 15 28 ?_
 refine pur_ 16 29 ?_
 refine fX (i:=17) (N:=none) #[true,true,true,true,true,true,true,true,true,true,true,true,true,true,true,true,true,true] rfl rfl (by kernel_rfl) (by decide) (fun K hK=>?_)
 refine iH (w1:=w3.setCell ⟨b.gl,t*3+1,none⟩ (.int .i64 dl)) (by rfl) rfl ?_ ?_
 ·clear hK
  obtain ⟨c0,c1,c2⟩:=RP HV.out.qC t (by show t<(S.th.set t _).length;rw [List.length_set];exact hts)
  have f0:=aG HV.out.qC (t*3+1)
  go_simp
 replace HK:=aA.mk (HK.out.trans (Kept.qC HV.out ((Mod.refl (fun q=>q=b.gl) w3).setCell (p:=⟨b.gl,t*3+1,none⟩) rfl (.int .i64 dl))))
 replace HV:=aA.mk (show MV (w3.setCell ⟨b.gl,t*3+1,none⟩ (.int .i64 dl)) b p (bP (bP S t ⟨st,S.th[t].deadline,S.th[t].steps⟩) t ⟨st,dl,S.th[t].steps⟩) v9 from HV.out.EI t 1 (.int .i64 dl) ⟨st,dl,S.th[t].steps⟩ (by show t<(S.th.set t _).length;rw [List.length_set];exact hts) (by decide) (by show _=((S.th.set t _)[t]'(by rw [List.length_set];exact hts)).cells.set 1 _;rw [List.getElem_set_self];rfl))
 generalize w3.setCell ⟨b.gl,t*3+1,none⟩ (.int .i64 dl)=w4 at HV HK ⊢
 refine hK.out _ _ ?_
 clear hK K
 refine eO (by kernel_rfl) ?_
 have HSET:aA (bP (bP S t ⟨st,S.th[t].deadline,S.th[t].steps⟩) t ⟨st,dl,S.th[t].steps⟩=bP (cM s k t) t ⟨st,dl,(s.th.getD t dE).steps⟩):=⟨by rw [HCF.out];unfold bP;dsimp only;rw [List.set_set]⟩
 have HV2:=aA.mk (by have:=HV.out;rw [HSET.out] at this;exact this)
 clear HV HSET HCF HSS
 have hS2x:(bP (cM s k t) t ⟨st,dl,(s.th.getD t dE).steps⟩).x=s.x:=rfl
 have hS2t:(bP (cM s k t) t ⟨st,dl,(s.th.getD t dE).steps⟩).th.length=s.th.length:=by show (s.th.set t _).length=_;rw [List.length_set]
 have hS2s:(bP (cM s k t) t ⟨st,dl,(s.th.getD t dE).steps⟩).seen.length=s.seen.length+1:=by show (s.seen++ [_]).length=_;simp
 have HCALL:aA (gL p s t k st dl=nM { bP (cM s k t) t ⟨st,dl,(s.th.getD t dE).steps⟩ with x:=(dH p (bP (cM s k t) t ⟨st,dl,(s.th.getD t dE).steps⟩).x t (((bP (cM s k t) t ⟨st,dl,(s.th.getD t dE).steps⟩).x.cs.getD t Cr.zero).goto (if st=3 then p.un else p.lo)) (-1) false).2 } t (dH p (bP (cM s k t) t ⟨st,dl,(s.th.getD t dE).steps⟩).x t (((bP (cM s k t) t ⟨st,dl,(s.th.getD t dE).steps⟩).x.cs.getD t Cr.zero).goto (if st=3 then p.un else p.lo)) (-1) false).1.marks (dH p (bP (cM s k t) t ⟨st,dl,(s.th.getD t dE).steps⟩).x t (((bP (cM s k t) t ⟨st,dl,(s.th.getD t dE).steps⟩).x.cs.getD t Cr.zero).goto (if st=3 then p.un else p.lo)) (-1) false).1.dn):=⟨rfl⟩
 generalize bP (cM s k t) t ⟨st,dl,(s.th.getD t dE).steps⟩=S2 at HV2 hS2x hS2t hS2s HCALL
 have HO2:=aA.mk (by have:=HO.out.x;rw [← hS2x] at this;exact this)
 have hc2:t<S2.x.cs.length:=by rw [hS2x];have:=HO.out.x.nc;have:=HO.out.nth;have:=HT.out;omega
 have HLL:=aA.mk (⟨hc2,hS2t,hS2s⟩:_∧_∧_)
 have hgm:=go_marks HO.out.code.m t 256 ((S2.x.cs.getD t Cr.zero).goto (if st=3 then p.un else p.lo)) [] (by simp)
 have HGM:=aA.mk (show (∀ k∈(dH p S2.x t ((S2.x.cs.getD t Cr.zero).goto (if st=3 then p.un else p.lo)) (-1) false).1.marks,1≤k∧k≤4)∧(dH p S2.x t ((S2.x.cs.getD t Cr.zero).goto (if st=3 then p.un else p.lo)) (-1) false).1.marks.length≤ [].length+256∧ -1≤(dH p S2.x t ((S2.x.cs.getD t Cr.zero).goto (if st=3 then p.un else p.lo)) (-1) false).1.dn∧(dH p S2.x t ((S2.x.cs.getD t Cr.zero).goto (if st=3 then p.un else p.lo)) (-1) false).1.dn≤3 from hgm)
 obtain ⟨u,hu⟩:∃ u,u=(st==3):=⟨_,rfl⟩
 have hgo:(if st=3 then p.un else p.lo)=(if u then p.un else p.lo):=by rw [hu];by_cases h3:st=3 <;> simp [h3]
 rw [hgo] at HCALL HGM
 have PB:=aA.mk (QV b.x p S2.x t u w4 HV2.out.lock HO2.out hc2)
 have HU:=aA.mk hu
 clear hS2x hS2t hS2s hc2 hgm hgo hu
 revert HCALL HGM PB
 generalize dH p S2.x t ((S2.x.cs.getD t Cr.zero).goto (if u=true then p.un else p.lo)) (-1) false=r
 obtain ⟨⟨ms,dn,ra,rw_,rs,er⟩,x2⟩:=r
 intro HGM HCALL PB
 dsimp only at HCALL HGM PB
 have b0:=(aC HV2.out.bI 0).trans rfl
 have e3:(st==3)=u:=HU.out.symm
 go_wp2_with (go_at_call 74;refine PB.out.mono ?_;rintro e w5 ⟨vm,rfl,hR,hm,hx⟩;have HV3:=aA.mk (HV2.out.DE hm hx);have HK3:=aA.mk (HK.out.trans (Kept.lock HV2.out hm));have HR3:=aA.mk hR;clear hR hm hx HV2 HK PB b0)
 go_at_call 70
 refine (qG b p _ t ms dn (-1) er false false _ _ _ ⟨_,HV3.out⟩ (HL.out.kept HK3.out) (by have:=HLL.out;have:=HT.out;dsimp only;omega) (by have:=HLL.out;have:=HO.out.nth;have:=HO.out.code.g.n64;dsimp only;omega) (by have:=HLL.out;have:=HO.out.seen;have:=HT.out;dsimp only;omega) HR3.out (by have:=HGM.out.2.1;simpa using this) HGM.out.1 HGM.out.2.2.1 HGM.out.2.2.2).mono ?_
 rintro e w6 ⟨rfl,hk,hm⟩
 have HK4:=aA.mk (HK3.out.trans hk)
 have HM4:=aA.mk hm
 clear hk hm
 go_wp2
 go_end0
 exact ⟨rfl,HK4.out,by rw [HCALL.out];exact HM4.out⟩
theorem XE (b:XB) (p:dU) (s:XS) (t:Nat) (late:Bool) (w:World) (h:jQ w b p s) (ho:sP p s) (ht:t<s.cs.length) (ha:jI p.l (s.cs.getD t Cr.zero).pc) (hk:s.took<maxLen):
  Calls Tryz.prog 65 #[.pointer (some ⟨b.be,0,none⟩),.int .i64 (t:Int),.bool late] w fun e w'=>
   ∃ v,e= .returned (.agg #[v,.int .i64 (bR p s t late).1.dn,.int .i64 (bR p s t late).1.addr,.bool (bR p s t late).1.wr,.bool (bR p s t late).1.st,.int .i64 (bR p s t late).1.er])∧Kd.R (Kd.int .i64) 3 w' w.heap.size (fun _=>True) v (bR p s t late).1.marks∧Mod (oJ b s) w w'∧jQ w' b p (bR p s t late).2:=by
 rw [getD_at ht] at ha
 have hok:=(ho.ins _ (iZ ha.1.1 ha.1.2)).ok.op
 have h16:=ha.2
 rcases (by omega:(16≤(bJ p.l s.cs[t].pc).op∧(bJ p.l s.cs[t].pc).op<22)∨(bJ p.l s.cs[t].pc).op=22∨(bJ p.l s.cs[t].pc).op=23) with h1|h1|h1
 ·exact I0 b p s t late w h ho ht ha.1 (by omega) hk h1
 ·exact H5 b p s t late w h ho ht ha.1 (by omega) hk h1
 ·exact EV b p s t late w h ho ht ha.1 (by omega) hk h1
theorem wM (s:MS) (t:Nat):bN s t= { s with sl:=(bN s t).sl,pm:=(bN s t).pm } :=by
 unfold bN
 split
 ·rfl
 split <;> rfl
theorem IL {s:MS} {t:Nat} (h:iP s t=false):bN s t=s:=by
 unfold iP at h
 rw [Bool.or_eq_false_iff] at h
 unfold bN
 rw [if_neg (by simpa using h.1),if_neg (by rw [h.2];decide)]
theorem VO (spin:Int) (s:MS) (t:Nat) (a:Int):pN spin s t a= { s with sl:=(pN spin s t a).sl,pm:=(pN spin s t a).pm } :=by
 unfold pN
 split <;> rfl
theorem PV (s:MS) (a b:Int):kO s a b= { s with sl:=(kO s a b).sl,pm:=(kO s a b).pm } :=by
 obtain ⟨pm,e,_⟩:=BC s a b
 rw [e]
theorem Kept.fresh {B:Nat} {W W' W2:World} {S:Nat→Prop} (k:Kept B W W') (hm:Mod S W' W2) (hS:∀ q,S q→W.heap.size≤q):Kept B W W2:=
 ⟨hm.os.trans k.os,hm.tape.trans k.tape,hm.output.trans k.output,Nat.le_trans k.size hm.size,fun q o hq=>(k.obj q o hq).elim .inl (fun h'=> .inr (hm.bI h' (fun hs=>by have:=hS q hs;have:=(Array.getElem?_eq_some_iff.1 hq).1;omega)))⟩
theorem Kept.ne {B:Nat} {W W':World} (k:Kept B W W') {q:Nat} {c:Array Value} (h:W.heap[q]?=some (.cells c 136 (0,0))):W'.heap[q]?=some (.cells c 136 (0,0)):=k.cells h (by simp) (by decide)
theorem IH (b:MB) (p:dU) (N:Nat) (s:MS) (t:Nat) (w:World) (h:MW w b p s) (ho:lG p N s) (hN:N≤1000000) (hl:gD w) (ht:t<s.th.length):
  Calls Tryz.prog 35 #[.pointer (some ⟨b.bm,0,none⟩),.int .i64 (t:Int)] w fun e w'=>e= .returned (.bool (fD s t))∧Kept b.B w w'∧MW w' b p (if fD s t=true then fK p b.spin s t else s):=by
 obtain ⟨v,h⟩:=h
 have H:=aA.mk h
 have HO:=aA.mk ho
 have HL:=aA.mk hl
 have HT:=aA.mk (⟨ht,hN⟩:t<s.th.length∧N≤1000000)
 have c0:=(aC h.bI 0).trans rfl
 have c1:=(aC h.bI 1).trans rfl
 have c3:=(aC h.bI 3).trans rfl
 obtain ⟨s0,s1,s2⟩:=RP h.qC t ht
 have i0:(0:Int)≤(t:Int):=by omega
 have i1:(t:Int)<(s.th.length:Int):=by omega
 have i2:(s.th.length:Int)≤64:=by have:=ho.nth;have:=ho.code.g.n64;omega
 have PR:=aA.mk (fun W (hW:MV W b p s v)=>BU b.bw b.gs b.cap b.bpp b.gp b.capp b.spin s b.rest b.restp b.cs t W hW.waits (by have:=ho.nth;have:=ho.nsl;omega))
 have hpk:fD s t=(((s.th[t].state==1) || (s.th[t].state==3))&&iP s t):=by unfold fD;rw [getD_at ht]
 have hx1:∀ x,s.th[t].state=x→(s.th.getD t dE).state=x:=fun x hx=>by rw [getD_at ht];exact hx
 have HX1:=aA.mk hx1
 have zb:=aZ h.bI
 have HPK:=aA.mk hpk
 clear h ho hl hN hpk hx1
 obtain ⟨x0,hx0⟩:∃ x,x=s.th[t].state:=⟨_,rfl⟩
 obtain ⟨x1,hx1⟩:∃ x,x=s.th[t].deadline:=⟨_,rfl⟩
 obtain ⟨x2,hx2⟩:∃ x,x=s.th[t].steps:=⟨_,rfl⟩
 rw [← hx0] at s0 HPK
 rw [← hx1] at s1
 rw [← hx2] at s2
 have HX:=aA.mk (⟨hx0,hx1,hx2⟩:_∧_∧_)
 clear hx0 hx1 hx2
 have HB:=aA.mk (aD (Below.refl w.heap.size w) (.cells #[.int .i64 x0,.int .i64 x1,.int .i64 x2] 86))
 by_cases hx:x0=1∨x0=3
 rotate_left
 ·have e1:(x0 != 1)=true:=by simp;intro e;exact hx (.inl e)
  have e3:(x0 != 3)=true:=by simp;intro e;exact hx (.inr e)
  have hr:fD s t=false:=by
   rw [HPK.out,show (x0==1)=false from by simp;intro e;exact hx (.inl e),show (x0==3)=false from by simp;intro e;exact hx (.inr e)]
   rfl
  rw [hr]
  clear PR hr
  go_enter Tryz.func35,Tryz.ntmps35
  go_wp2
  go_ret
  exact ⟨rfl,Kept.below HB.out,⟨v,H.out.below HB.out⟩⟩
 ·have hr:fD s t=iP s t:=by
   rw [HPK.out]
   rcases hx with e|e <;> rw [e] <;> rfl
  rw [hr]
  clear HPK
  obtain ⟨ok,hok⟩:∃ ok,ok=iP s t:=⟨_,rfl⟩
  rw [← hok] at PR ⊢
  have HOK:=aA.mk hok
  clear hok hr
  cases ok
  ·have hn:=IL HOK.out.symm
   rcases hx with rfl|rfl
   all_goals
    go_enter Tryz.func35,Tryz.ntmps35
    go_wp2_with (go_at_call 64;refine (PR.out _ (H.out.below HB.out)).mono ?_;rintro e w9 ⟨rfl,hm,hP⟩;have HV:=aA.mk ((H.out.below HB.out).mL hm hP);have HK:=aA.mk ((Kept.below HB.out).trans (Kept.waits (H.out.below HB.out) hm));clear hm hP PR c0 c1 c3 s0 s1 s2)
    go_ret
    refine ⟨rfl,HK.out,⟨v,?_⟩⟩
    have:=HV.out
    rw [← wM,hn] at this
    exact this
  ·have hst0:(s.th.getD t dE).state=1∨(s.th.getD t dE).state=3:=by rcases hx with e|e;exact .inl (HX1.out _ (by rw [← HX.out.1];exact e));exact .inr (HX1.out _ (by rw [← HX.out.1];exact e))
   have hres:=HO.out.resume t
   have HRES:=aA.mk hres
   have HST:=aA.mk (HO.out.at_ t HT.out.1 hst0)
   clear hres hst0
   have HSTEP:aA (fK p b.spin s t=(if (bR p (bN s t).x t (fY (bN s t) t)).1.st=true then pN b.spin (bP { bN s t with x:=(bR p (bN s t).x t (fY (bN s t) t)).2 } t ⟨((bN s t).th.getD t dE).state,((bN s t).th.getD t dE).deadline,((bN s t).th.getD t dE).steps+1⟩) t (bR p (bN s t).x t (fY (bN s t) t)).1.addr else nM (if (bR p (bN s t).x t (fY (bN s t) t)).1.wr=true then kO (eF (bP { bN s t with x:=(bR p (bN s t).x t (fY (bN s t) t)).2 } t ⟨((bN s t).th.getD t dE).state,((bN s t).th.getD t dE).deadline,((bN s t).th.getD t dE).steps+1⟩) t) (bR p (bN s t).x t (fY (bN s t) t)).1.addr t else eF (bP { bN s t with x:=(bR p (bN s t).x t (fY (bN s t) t)).2 } t ⟨((bN s t).th.getD t dE).state,((bN s t).th.getD t dE).deadline,((bN s t).th.getD t dE).steps+1⟩) t) t (bR p (bN s t).x t (fY (bN s t) t)).1.marks (bR p (bN s t).x t (fY (bN s t) t)).1.dn)):=⟨rfl⟩
   have hg:=fun W (hW:MV W b p s v) (W':World) (hm:Mod (fun q=>q=b.gs∨q∈b.cs) W W') (hP:dQ W' b.bw b.gs b.cap b.bpp b.gp b.capp b.spin (bN s t).sl b.rest b.restp b.cs (bN s t).pm)=>(show MV W' b p (bN s t) v from by have:=hW.mL hm hP;rw [← wM] at this;exact this)
   have HG:=aA.mk hg
   clear hg
   rw [if_pos rfl,HSTEP.out]
   have PRR:=PR
   clear PR
   revert HRES HG PRR HSTEP
   generalize bN s t=r1
   intro HRES HSTEP HG PRR
   obtain ⟨hO1,ex,eth,esn,enow⟩:=HRES.out
   have HO1:=aA.mk hO1
   have hts:t<r1.th.length:=by rw [eth];exact HT.out.1
   have hcs:t<r1.x.cs.length:=by have:=hO1.x.nc;have:=hO1.nth;omega
   have hat:jI p.l (r1.x.cs.getD t Cr.zero).pc:=by rw [ex];exact HST.out
   have h641:r1.th.length≤64:=by rw [eth];omega
   have htk:r1.x.took<maxLen:=Nat.lt_of_le_of_lt hO1.took (Nat.lt_of_le_of_lt HT.out.2 (by decide))
   have PS:=aA.mk (fun W (hW:jQ W b.x p r1.x)=>XE b.x p r1.x t (fY r1 t) W hW hO1.x hcs hat htk)
   have PL:=aA.mk (fun W (hW:MV W b p r1 v)=>wP b p r1 t W ⟨_,hW⟩ hts h641)
   have HMK:=aA.mk (sV (p:=p) (s:=r1.x) HO.out.code.m (fY r1 t) t)
   have HTS:=aA.mk (⟨hts,h641,esn⟩:t<r1.th.length∧r1.th.length≤64∧r1.seen=s.seen)
   have hg:=getD_at (z:=dE) hts
   have HGT:=aA.mk hg
   clear hO1 ex eth esn enow hcs hat htk hg HRES HST HX1
   clear HSTEP
   revert PS HMK
   generalize fY r1 t=lt at PL ⊢
   generalize bR p r1.x t lt=rr
   obtain ⟨⟨ms,dn,addr,wb,st,er⟩,xx⟩:=rr
   dsimp only
   intro PS HMK
   rw [HGT.out]
   rcases hx with rfl|rfl
   all_goals
    go_enter Tryz.func35,Tryz.ntmps35
    go_wp2_with (go_at_call 64;refine (PRR.out _ (H.out.below HB.out)).mono ?_;rintro e w9 ⟨rfl,hm,hP⟩;have HV:=aA.mk (HG.out _ (H.out.below HB.out) _ hm hP);have HK:=aA.mk ((Kept.below HB.out).trans (Kept.waits (H.out.below HB.out) hm));clear hm hP PRR c0 c1 c3 s0 s1 s2 i1 i2)

    refine dB (n:=11) (S:=fun w'=>w'.heap[b.bm]?=some (.cells #[.pointer (some ⟨b.x.be,0,none⟩),.pointer (some ⟨b.bw,0,none⟩),.bool b.tr,.slice (some ⟨b.gl,0,none⟩) r1.th.length r1.th.length,.int .i64 r1.now,v] 76 (0,0))) (ds:= [10]) #[false,false,false,false,false,false,false,false,false,false,false] (by kernel_rfl) rfl rfl HV.out.bI (fun hHeld=>?_)
    replace HV:=aA.mk (HV.out.below (bG (Below.refl _ _)))
    replace HK:=aA.mk (HK.out.drew)
    generalize w9.drew=w2 at HV HK hHeld ⊢
    refine pur_ 0 31 ?_
    refine pur_ 1 32 ?_
    refine pur_ 2 33 ?_
    refine pur_ 4 35 ?_
    refine pur_ 5 36 ?_
    refine pur_ 6 37 ?_
    refine tak_ 3 34 (.pointer (some ⟨b.x.be,0,none⟩)) ?_ hHeld ?_
    ·intro w' hS
     have c0:=(aC hS 0).trans rfl
     clear hHeld hS
     go_simp
    refine RA (σ:=Nat × Option Addr × Nat) 1 #[true,true,true,true,true,true,true,true,true,true,false] (fun z=> [(38,.bool lt),(39,.agg #[.slice z.2.1 ms.length z.2.2,.int .i64 dn,.int .i64 addr,.bool wb,.bool st,.int .i64 er]),(6,.pointer (some ⟨z.1,0,none⟩))]) (fun z w'=>MV w' b p { r1 with x:=xx } v∧Kept b.B w w'∧w'.heap[z.1]?=some (.cells #[.slice none 0 0,.int .i64 0,.int .i64 0,.bool false,.bool false,.int .i64 0] 136 (0,0))∧Kd.R (Kd.int .i64) 3 w' 0 (fun _=>True) (.slice z.2.1 ms.length z.2.2) ms∧w.heap.size≤z.1) ?cont ?orders
    case orders=>
     intro hcont
     refine WS (i:=7) (j:=9) (Ni:=some 38) (Nj:=some 6) #[true,true,true,true,true,true,true,true,false,false,false] #[true,true,true,true,true,true,true,false,false,true,false] rfl rfl rfl rfl (by kernel_rfl) (by decide) (by decide) (fun K hK=>?_) (fun K hK=>?_)
     ·
      refine goe_ Tryz.func66 #[.pointer (some ⟨b.bm,0,none⟩),.int .i64 (t:Int)] ?_
      refine (PL.out _ HV.out).mono ?_
      rintro e w9 ⟨rfl,hb⟩
      refine ⟨_,rfl,?_⟩
      replace HV:=aA.mk (HV.out.below hb)
      replace HK:=aA.mk (HK.out.step hb)
      clear hb hHeld
      refine hK.out _ _ HV.out.bI (fun hHeld=>?_)
      clear hK K
      refine nor_ ?_
      refine WS (i:=8) (j:=9) (Ni:=some 39) (Nj:=some 6) #[true,true,true,true,true,true,true,true,true,false,false] #[true,true,true,true,true,true,true,true,false,true,false] rfl rfl rfl rfl (by kernel_rfl) (by decide) (by decide) (fun K hK=>?_) (fun K hK=>?_)
      ·
       refine goe_ Tryz.func65 #[.pointer (some ⟨b.x.be,0,none⟩),.int .i64 (t:Int),.bool lt] ?_
       refine (PS.out _ HV.out.lock).mono ?_
       rintro e w9 ⟨vm,rfl,hR,hm,hx⟩
       obtain ⟨Av,cv,hv,_,_⟩:=Kd.bY hR
       subst hv
       refine ⟨_,rfl,?_⟩
       have HR:=aA.mk (Kd.cT hR (Nat.zero_le _))
       replace HK:=aA.mk (HK.out.trans (Kept.lock HV.out hm))
       replace HV:=aA.mk (HV.out.DE hm hx)
       clear hR hm hx hHeld
       refine hK.out _ _ HV.out.bI (fun hHeld=>?_)
       clear hK K
       refine nor_ ?_
       obtain ⟨wq,hwq⟩:∃ q,q=w9:=⟨_,rfl⟩
       rw [← hwq] at HV HK HR hHeld ⊢
       clear hwq
       refine on_ 9 6 (fun K hK=>?_)
       refine jX (v:= .pointer (some ⟨wq.heap.size,0,none⟩)) (w1:=wq.alloc (.cells #[.slice none 0 0,.int .i64 0,.int .i64 0,.bool false,.bool false,.int .i64 0] 136)) (by rfl) rfl (by kernel_rfl) ?_
       have HO6:=aA.mk (bF wq (.cells #[.slice none 0 0,.int .i64 0,.int .i64 0,.bool false,.bool false,.int .i64 0] 136))
       have HZ:=aA.mk HK.out.size
       replace HV:=aA.mk (HV.out.below (aD (Below.refl _ _) (.cells #[.slice none 0 0,.int .i64 0,.int .i64 0,.bool false,.bool false,.int .i64 0] 136)))
       replace HK:=aA.mk (HK.out.alloc (.cells #[.slice none 0 0,.int .i64 0,.int .i64 0,.bool false,.bool false,.int .i64 0] 136))
       replace HR:=aA.mk (Kd.cO HR.out (.cells #[.slice none 0 0,.int .i64 0,.int .i64 0,.bool false,.bool false,.int .i64 0] 136))
       clear hHeld
       refine hK.out _ _ HV.out.bI (fun hHeld=>?_)
       clear hK K
       refine nor_ ?_
       generalize wq.alloc (.cells #[.slice none 0 0,.int .i64 0,.int .i64 0,.bool false,.bool false,.int .i64 0] 136)=wa at HV HK HO6 HR hHeld ⊢
       generalize wq.heap.size=zz at HO6 HZ ⊢
       refine nJ (a':=_) ?_ (hcont (zz,Av,cv) _ ⟨HV.out,HK.out,HO6.out,HR.out,HZ.out⟩)
       simp only [iX,Act.put,List.setIfInBounds_toArray,List.set_cons_zero,List.set_cons_succ]
       try rfl
      ·
       refine jX (v:= .pointer (some ⟨w9.heap.size,0,none⟩)) (w1:=w9.alloc (.cells #[.slice none 0 0,.int .i64 0,.int .i64 0,.bool false,.bool false,.int .i64 0] 136)) (by rfl) rfl (by kernel_rfl) ?_
       have HO6:=aA.mk (bF w9 (.cells #[.slice none 0 0,.int .i64 0,.int .i64 0,.bool false,.bool false,.int .i64 0] 136))
       have HZ:=aA.mk HK.out.size
       replace HV:=aA.mk (HV.out.below (aD (Below.refl _ _) (.cells #[.slice none 0 0,.int .i64 0,.int .i64 0,.bool false,.bool false,.int .i64 0] 136)))
       replace HK:=aA.mk (HK.out.alloc (.cells #[.slice none 0 0,.int .i64 0,.int .i64 0,.bool false,.bool false,.int .i64 0] 136))
       clear hHeld
       refine hK.out _ _ HV.out.bI (fun hHeld=>?_)
       clear hK K
       refine nor_ ?_
       generalize w9.alloc (.cells #[.slice none 0 0,.int .i64 0,.int .i64 0,.bool false,.bool false,.int .i64 0] 136)=wa at HV HK HO6 hHeld ⊢
       generalize w9.heap.size=zz at HO6 HZ ⊢
       refine on_ 8 39 (fun K hK=>?_)
       refine goe_ Tryz.func65 #[.pointer (some ⟨b.x.be,0,none⟩),.int .i64 (t:Int),.bool lt] ?_
       refine (PS.out _ HV.out.lock).mono ?_
       rintro e w9 ⟨vm,rfl,hR,hm,hx⟩
       obtain ⟨Av,cv,hv,_,_⟩:=Kd.bY hR
       subst hv
       refine ⟨_,rfl,?_⟩
       have HR:=aA.mk (Kd.cT hR (Nat.zero_le _))
       replace HK:=aA.mk (HK.out.trans (Kept.lock HV.out hm))
       replace HO6:=aA.mk ((Kept.lock HV.out hm).ne HO6.out)
       replace HV:=aA.mk (HV.out.DE hm hx)
       clear hR hm hx hHeld
       refine hK.out _ _ HV.out.bI (fun hHeld=>?_)
       clear hK K
       refine nor_ ?_
       refine nJ (a':=_) ?_ (hcont (zz,Av,cv) _ ⟨HV.out,HK.out,HO6.out,HR.out,HZ.out⟩)
       simp only [iX,Act.put,List.setIfInBounds_toArray,List.set_cons_zero,List.set_cons_succ]
       try rfl
     ·
      refine jX (v:= .pointer (some ⟨w2.heap.size,0,none⟩)) (w1:=w2.alloc (.cells #[.slice none 0 0,.int .i64 0,.int .i64 0,.bool false,.bool false,.int .i64 0] 136)) (by rfl) rfl (by kernel_rfl) ?_
      have HO6:=aA.mk (bF w2 (.cells #[.slice none 0 0,.int .i64 0,.int .i64 0,.bool false,.bool false,.int .i64 0] 136))
      have HZ:=aA.mk HK.out.size
      replace HV:=aA.mk (HV.out.below (aD (Below.refl _ _) (.cells #[.slice none 0 0,.int .i64 0,.int .i64 0,.bool false,.bool false,.int .i64 0] 136)))
      replace HK:=aA.mk (HK.out.alloc (.cells #[.slice none 0 0,.int .i64 0,.int .i64 0,.bool false,.bool false,.int .i64 0] 136))
      clear hHeld
      refine hK.out _ _ HV.out.bI (fun hHeld=>?_)
      clear hK K
      refine nor_ ?_
      generalize w2.alloc (.cells #[.slice none 0 0,.int .i64 0,.int .i64 0,.bool false,.bool false,.int .i64 0] 136)=wa at HV HK HO6 hHeld ⊢
      generalize w2.heap.size=zz at HO6 HZ ⊢
      refine on_ 7 38 (fun K hK=>?_)
      refine goe_ Tryz.func66 #[.pointer (some ⟨b.bm,0,none⟩),.int .i64 (t:Int)] ?_
      refine (PL.out _ HV.out).mono ?_
      rintro e w9 ⟨rfl,hb⟩
      refine ⟨_,rfl,?_⟩
      replace HV:=aA.mk (HV.out.below hb)
      replace HK:=aA.mk (HK.out.step hb)
      replace HO6:=aA.mk (aE HO6.out hb)
      clear hb hHeld
      refine hK.out _ _ HV.out.bI (fun hHeld=>?_)
      clear hK K
      refine nor_ ?_
      refine on_ 8 39 (fun K hK=>?_)
      refine goe_ Tryz.func65 #[.pointer (some ⟨b.x.be,0,none⟩),.int .i64 (t:Int),.bool lt] ?_
      refine (PS.out _ HV.out.lock).mono ?_
      rintro e w9 ⟨vm,rfl,hR,hm,hx⟩
      obtain ⟨Av,cv,hv,_,_⟩:=Kd.bY hR
      subst hv
      refine ⟨_,rfl,?_⟩
      have HR:=aA.mk (Kd.cT hR (Nat.zero_le _))
      replace HK:=aA.mk (HK.out.trans (Kept.lock HV.out hm))
      replace HO6:=aA.mk ((Kept.lock HV.out hm).ne HO6.out)
      replace HV:=aA.mk (HV.out.DE hm hx)
      clear hR hm hx hHeld
      refine hK.out _ _ HV.out.bI (fun hHeld=>?_)
      clear hK K
      refine nor_ ?_
      refine nJ (a':=_) ?_ (hcont (zz,Av,cv) _ ⟨HV.out,HK.out,HO6.out,HR.out,HZ.out⟩)
      simp only [iX,Act.put,List.setIfInBounds_toArray,List.set_cons_zero,List.set_cons_succ]
      try rfl
    case cont=>
     clear HV HK hHeld HG PL PS
     rintro ⟨zz,Av,cv⟩ w3 ⟨hV,hK3,hO6,hR3,hzz⟩
     have HV:=aA.mk hV
     have HK:=aA.mk hK3
     have HO6:=aA.mk hO6
     have HR:=aA.mk hR3
     clear hV hK3 hO6 hR3
     have HZ:=aA.mk hzz
     clear hzz
     refine nJ (a':=?_) ?_ ?_
     rotate_left
     ·simp only [iX,Act.put,List.setIfInBounds_toArray,List.set_cons_zero,List.set_cons_succ]
      rfl
     refine fX (i:=10) (N:=none) #[true,true,true,true,true,true,true,true,true,true,true] rfl rfl (by kernel_rfl) (by decide) (fun K hK=>?_)
     refine iH (w1:=iU w3 zz (.slice Av ms.length cv) (.int .i64 dn) (.int .i64 addr) (.bool wb) (.bool st) (.int .i64 er)) (by rfl) rfl ?_ ?_
     ·clear hK
      obtain ⟨y0,z0,y1,z1,y2,z2,y3,z3,y4,z4,y5,z5⟩:=fW HO6.out
      unfold iU
      go_simp
     have M6:=fR w3 zz (.slice Av ms.length cv) (.int .i64 dn) (.int .i64 addr) (.bool wb) (.bool st) (.int .i64 er)
     have NZ:=aA.mk (eY HO6.out (.slice Av ms.length cv) (.int .i64 dn) (.int .i64 addr) (.bool wb) (.bool st) (.int .i64 er))
     replace HV:=aA.mk (HV.out.off M6 (xZ.one HO6.out (by simp [cW,mvT])))
     replace HK:=aA.mk (HK.out.fresh M6 (fun q hq=>by rw [hq];exact HZ.out))
     replace HR:=aA.mk (iT HR.out M6 (fun q hq=>by rcases hq with rfl;exact ⟨_,_,HO6.out,by decide⟩))
     clear HO6 M6
     generalize iU w3 zz (.slice Av ms.length cv) (.int .i64 dn) (.int .i64 addr) (.bool wb) (.bool st) (.int .i64 er)=w4 at NZ HV HK HR ⊢
     refine hK.out _ _ ?_
     clear hK K
     refine eO (by kernel_rfl) ?_
     have hstp:=HO1.out.steps _ (List.getElem_mem hts)
     have hs:wrap64 (r1.th[t].steps+1)=r1.th[t].steps+1:=by have:=HT.out.2;unfold wrap64;omega
     have c3:=(aC HV.out.bI 3).trans rfl
     obtain ⟨d0,d1,d2⟩:=RP HV.out.qC t hts
     have f2:=aG HV.out.qC (t*3+2)
     have j1:(t:Int)<(r1.th.length:Int):=by omega
     have j2:(r1.th.length:Int)≤64:=by omega
     have nz:zz≠b.gl:=aK NZ.out HV.out.qC (by decide)
     have nbm:b.bm≠b.gl:=aK HV.out.bI HV.out.qC (by decide)
     have c1:=(aC HV.out.bI 1).trans rfl
     obtain ⟨y0,y1,y2,y3,y4,y5⟩:=eM NZ.out
     cases st
     ·
      go_wp2_with fail
      have HV5:=aA.mk (show MV (w4.setCell ⟨b.gl,t*3+2,none⟩ (.int .i64 (r1.th[t].steps+1))) b p (bP { r1 with x:=xx } t ⟨r1.th[t].state,r1.th[t].deadline,r1.th[t].steps+1⟩) v from HV.out.EI t 2 (.int .i64 (r1.th[t].steps+1)) ⟨r1.th[t].state,r1.th[t].deadline,r1.th[t].steps+1⟩ hts (by decide) rfl)
      have HK5:=aA.mk (HK.out.trans (Kept.qC HV.out ((Mod.refl (fun q=>q=b.gl) w4).setCell (p:=⟨b.gl,t*3+2,none⟩) rfl (.int .i64 (r1.th[t].steps+1)))))
      have NZ5:=aA.mk (bB (p:=⟨b.gl,t*3+2,none⟩) NZ.out nz (.int .i64 (r1.th[t].steps+1)))
      have HR5:=aA.mk (iT HR.out ((Mod.refl (fun q=>q=b.gl) w4).setCell (p:=⟨b.gl,t*3+2,none⟩) rfl (.int .i64 (r1.th[t].steps+1))) (fun q hq=>by rcases hq with rfl;exact ⟨_,_,HV.out.qC,by decide⟩))
      clear c1 nbm c3 d0 d1 d2 f2 y0 y1 y2 y3 y4 y5 nz hs NZ HV HK HR
      generalize (w4.setCell ⟨b.gl,t*3+2,none⟩ (.int .i64 (r1.th[t].steps+1)))=w5 at HV5 HK5 NZ5 HR5 ⊢
      have hsl5:t<(bP { r1 with x:=xx } t ⟨r1.th[t].state,r1.th[t].deadline,r1.th[t].steps+1⟩).sl.length:=by show t<r1.sl.length;have:=HO1.out.nsl;have:=HO1.out.nth;omega
      have hlk5:=qA HO1.out t
      have HQ5:=aA.mk (⟨hsl5,hlk5⟩:t<(bP { r1 with x:=xx } t ⟨r1.th[t].state,r1.th[t].deadline,r1.th[t].steps+1⟩).sl.length∧0≤((bP { r1 with x:=xx } t ⟨r1.th[t].state,r1.th[t].deadline,r1.th[t].steps+1⟩).sl.getD t rP).looks∧((bP { r1 with x:=xx } t ⟨r1.th[t].state,r1.th[t].deadline,r1.th[t].steps+1⟩).sl.getD t rP).looks≤1000)
      clear hsl5 hlk5
      obtain ⟨T2,hT2⟩:∃ T,T=(bP { r1 with x:=xx } t ⟨r1.th[t].state,r1.th[t].deadline,r1.th[t].steps+1⟩):=⟨_,rfl⟩
      rw [← hT2] at HV5 HQ5
      have HTE:=aA.mk hT2
      have HT2:=aA.mk (⟨by rw [hT2];show (r1.th.set t _).length=_;rw [List.length_set],by rw [hT2];rfl⟩:T2.th.length=r1.th.length∧T2.seen=r1.seen)
      clear hT2
      cases wb
      ·
       go_wp2_with (first|(go_at_call 68;refine (tC b.bw b.gs b.cap b.bpp b.gp b.capp b.spin T2.sl b.rest b.restp b.cs T2.pm t _ HV5.out.waits HQ5.out.1).mono ?_;rintro e w6 ⟨rfl,hm,hP⟩;have hm':=hm.mono (T:=fun q=>q=b.gs∨q∈b.cs) (fun q _ hq=> .inl hq);have HV:=aA.mk (show MV w6 b p (eF T2 t) v from by unfold eF;rw [getD_at HQ5.out.1];exact HV5.out.mL hm' hP);have HK:=aA.mk (HK5.out.trans (Kept.waits HV5.out hm'));have NZ:=aA.mk ((Kept.waits HV5.out hm').ne NZ5.out);have HR:=aA.mk ((Kept.waits HV5.out hm').R HR5.out (by intro y hy;rcases List.mem_cons.1 hy with rfl|hy;exact ⟨by simp,by decide⟩;cases hy));clear hm hP hm' HV5 HK5 NZ5 HR5;obtain ⟨y0,y1,y2,y3,y4,y5⟩:=eM NZ.out)|(go_at_call 70;refine (qG b p _ t ms dn addr er false false _ _ _ ⟨_,HV.out⟩ (HL.out.kept HK.out) (by have:=HT2.out;show t<T2.th.length;omega) (by have:=HT2.out;show T2.th.length≤64;omega) (by have:=HT2.out;have:=HTS.out;have:=HO.out.seen;have:=HT.out;show T2.seen.length≤900000000;rw [HT2.out.2,HTS.out.2.2];omega) HR.out HMK.out.2.1 HMK.out.1 HMK.out.2.2.1 HMK.out.2.2.2).mono ?_;rintro e w8 ⟨rfl,hk,hm⟩;have HKE:=aA.mk (HK.out.trans hk);have HME:=aA.mk hm;clear hk hm))
       go_ret
       obtain rfl:=HTE.out
       exact ⟨rfl,HKE.out,⟨_,HME.out.choose_spec⟩⟩
      ·
       go_wp2_with (go_at_call 68;refine (tC b.bw b.gs b.cap b.bpp b.gp b.capp b.spin T2.sl b.rest b.restp b.cs T2.pm t _ HV5.out.waits HQ5.out.1).mono ?_;rintro e w6 ⟨rfl,hm,hP⟩;have hm':=hm.mono (T:=fun q=>q=b.gs∨q∈b.cs) (fun q _ hq=> .inl hq);have HV:=aA.mk (show MV w6 b p (eF T2 t) v from by unfold eF;rw [getD_at HQ5.out.1];exact HV5.out.mL hm' hP);have HK:=aA.mk (HK5.out.trans (Kept.waits HV5.out hm'));have NZ:=aA.mk ((Kept.waits HV5.out hm').ne NZ5.out);have HR:=aA.mk ((Kept.waits HV5.out hm').R HR5.out (by intro y hy;rcases List.mem_cons.1 hy with rfl|hy;exact ⟨by simp,by decide⟩;cases hy));clear hm hP hm' HV5 HK5 NZ5 HR5;obtain ⟨y0,y1,y2,y3,y4,y5⟩:=eM NZ.out)
       clear y0 y1 y2 y3 y4 y5
       refine dB (n:=8) (S:=fun w'=>w'.heap[b.bm]?=some (.cells #[.pointer (some ⟨b.x.be,0,none⟩),.pointer (some ⟨b.bw,0,none⟩),.bool b.tr,.slice (some ⟨b.gl,0,none⟩) (eF T2 t).th.length (eF T2 t).th.length,.int .i64 (eF T2 t).now,v] 76 (0,0))∧w'.heap[zz]?=some (.cells #[.slice Av ms.length cv,.int .i64 dn,.int .i64 addr,.bool true,.bool false,.int .i64 er] 136 (0,0))) (ds:= []) #[false,false,false,false,false,false,false,false] (by kernel_rfl) rfl rfl ⟨HV.out.bI,NZ.out⟩ (fun hHeld=>?_)
       replace HV:=aA.mk (HV.out.below (bG (Below.refl _ _)))
       replace HK:=aA.mk (HK.out.drew)
       replace NZ:=aA.mk (drew_ NZ.out)
       replace HR:=aA.mk (Kd.iI HR.out)
       generalize w6.drew=wd at HV HK NZ HR hHeld ⊢
       refine pur_ 0 69 ?_
       refine pur_ 1 70 ?_
       refine pur_ 2 71 ?_
       refine pur_ 4 73 ?_
       refine pur_ 6 75 ?_
       refine tak_ 3 72 (.pointer (some ⟨b.bw,0,none⟩)) ?_ hHeld ?_
       ·intro w' hS
        have c1:=(aC hS.1 1).trans rfl
        clear hHeld hS
        go_simp
       refine tak_ 5 74 (.int .i64 addr) ?_ hHeld ?_
       ·intro w' hS
        have c2:=(aC hS.2 2).trans rfl
        clear hHeld hS
        go_simp
       refine on_ 7 76 (fun K hK=>?_)
       refine goe_ Tryz.func69 #[.pointer (some ⟨b.bw,0,none⟩),.int .i64 addr,.int .i64 (t:Int)] ?_
       refine (GN b.bw b.gs b.cap b.bpp b.gp b.capp b.spin (eF T2 t) b.rest b.restp b.cs addr (t:Int) _ HV.out.waits).mono ?_
       rintro e w7 ⟨⟨vr,rfl⟩,hm,hP⟩
       refine ⟨_,rfl,?_⟩
       have hk7:=Kept.waits HV.out hm
       replace HV:=aA.mk (HV.out.mL hm hP)
       replace HK:=aA.mk (HK.out.trans hk7)
       replace NZ:=aA.mk (hk7.ne NZ.out)
       replace HR:=aA.mk (hk7.R HR.out (by intro y hy;rcases List.mem_cons.1 hy with rfl|hy;exact ⟨by simp,by decide⟩;cases hy))
       clear hm hP hk7 hHeld
       refine hK.out _ _ ⟨HV.out.bI,NZ.out⟩ (fun hHeld=>?_)
       clear hK K
       refine nor_ ?_
       refine eO (by kernel_rfl) ?_
       obtain ⟨y0,y1,y2,y3,y4,y5⟩:=eM NZ.out
       go_wp2_with (go_at_call 70;refine (qG b p _ t ms dn addr er true false _ _ _ ⟨_,HV.out⟩ (HL.out.kept HK.out) (by have:=HT2.out;show t<T2.th.length;omega) (by have:=HT2.out;show T2.th.length≤64;omega) (by have:=HT2.out;have:=HTS.out;have:=HO.out.seen;have:=HT.out;show T2.seen.length≤900000000;rw [HT2.out.2,HTS.out.2.2];omega) HR.out HMK.out.2.1 HMK.out.1 HMK.out.2.2.1 HMK.out.2.2.2).mono ?_;rintro e w8 ⟨rfl,hk,hm⟩;have HKE:=aA.mk (HK.out.trans hk);have HME:=aA.mk hm;clear hk hm)
       go_ret
       obtain rfl:=HTE.out
       refine ⟨rfl,HKE.out,?_⟩
       have hme:=HME.out
       rw [← PV] at hme
       exact hme
     ·
      go_wp2_with fail
      have HV5:=aA.mk (show MV (w4.setCell ⟨b.gl,t*3+2,none⟩ (.int .i64 (r1.th[t].steps+1))) b p (bP { r1 with x:=xx } t ⟨r1.th[t].state,r1.th[t].deadline,r1.th[t].steps+1⟩) v from HV.out.EI t 2 (.int .i64 (r1.th[t].steps+1)) ⟨r1.th[t].state,r1.th[t].deadline,r1.th[t].steps+1⟩ hts (by decide) rfl)
      have HK5:=aA.mk (HK.out.trans (Kept.qC HV.out ((Mod.refl (fun q=>q=b.gl) w4).setCell (p:=⟨b.gl,t*3+2,none⟩) rfl (.int .i64 (r1.th[t].steps+1)))))
      have NZ5:=aA.mk (bB (p:=⟨b.gl,t*3+2,none⟩) NZ.out nz (.int .i64 (r1.th[t].steps+1)))
      have HR5:=aA.mk (iT HR.out ((Mod.refl (fun q=>q=b.gl) w4).setCell (p:=⟨b.gl,t*3+2,none⟩) rfl (.int .i64 (r1.th[t].steps+1))) (fun q hq=>by rcases hq with rfl;exact ⟨_,_,HV.out.qC,by decide⟩))
      clear c1 nbm c3 d0 d1 d2 f2 y0 y1 y2 y3 y4 y5 nz hs NZ HV HK HR
      generalize (w4.setCell ⟨b.gl,t*3+2,none⟩ (.int .i64 (r1.th[t].steps+1)))=w5 at HV5 HK5 NZ5 HR5 ⊢
      have hsl5:t<(bP { r1 with x:=xx } t ⟨r1.th[t].state,r1.th[t].deadline,r1.th[t].steps+1⟩).sl.length:=by show t<r1.sl.length;have:=HO1.out.nsl;have:=HO1.out.nth;omega
      have hlk5:=qA HO1.out t
      have HQ5:=aA.mk (⟨hsl5,hlk5⟩:t<(bP { r1 with x:=xx } t ⟨r1.th[t].state,r1.th[t].deadline,r1.th[t].steps+1⟩).sl.length∧0≤((bP { r1 with x:=xx } t ⟨r1.th[t].state,r1.th[t].deadline,r1.th[t].steps+1⟩).sl.getD t rP).looks∧((bP { r1 with x:=xx } t ⟨r1.th[t].state,r1.th[t].deadline,r1.th[t].steps+1⟩).sl.getD t rP).looks≤1000)
      clear hsl5 hlk5
      obtain ⟨T2,hT2⟩:∃ T,T=(bP { r1 with x:=xx } t ⟨r1.th[t].state,r1.th[t].deadline,r1.th[t].steps+1⟩):=⟨_,rfl⟩
      rw [← hT2] at HV5 HQ5
      have HTE:=aA.mk hT2
      have HT2:=aA.mk (⟨by rw [hT2];show (r1.th.set t _).length=_;rw [List.length_set],by rw [hT2];rfl⟩:T2.th.length=r1.th.length∧T2.seen=r1.seen)
      clear hT2
      have HV:=HV5
      have HK:=HK5
      have NZ:=NZ5
      have HR:=HR5
      clear HV5 HK5 NZ5 HR5
      refine dB (n:=8) (S:=fun w'=>w'.heap[b.bm]?=some (.cells #[.pointer (some ⟨b.x.be,0,none⟩),.pointer (some ⟨b.bw,0,none⟩),.bool b.tr,.slice (some ⟨b.gl,0,none⟩) T2.th.length T2.th.length,.int .i64 T2.now,v] 76 (0,0))∧w'.heap[zz]?=some (.cells #[.slice Av ms.length cv,.int .i64 dn,.int .i64 addr,.bool wb,.bool true,.int .i64 er] 136 (0,0))) (ds:= []) #[false,false,false,false,false,false,false,false] (by kernel_rfl) rfl rfl ⟨HV.out.bI,NZ.out⟩ (fun hHeld=>?_)
      replace HV:=aA.mk (HV.out.below (bG (Below.refl _ _)))
      replace HK:=aA.mk (HK.out.drew)
      replace NZ:=aA.mk (drew_ NZ.out)
      replace HR:=aA.mk (Kd.iI HR.out)
      generalize w5.drew=wd at HV HK NZ HR hHeld ⊢
      refine pur_ 0 53 ?_
      refine pur_ 1 54 ?_
      refine pur_ 2 55 ?_
      refine pur_ 4 57 ?_
      refine pur_ 5 58 ?_
      refine tak_ 3 56 (.pointer (some ⟨b.bw,0,none⟩)) ?_ hHeld ?_
      ·intro w' hS
       have c1:=(aC hS.1 1).trans rfl
       clear hHeld hS
       go_simp
      refine tak_ 6 59 (.int .i64 addr) ?_ hHeld ?_
      ·intro w' hS
       have c2:=(aC hS.2 2).trans rfl
       clear hHeld hS
       go_simp
      refine on_ 7 60 (fun K hK=>?_)
      refine goe_ Tryz.func67 #[.pointer (some ⟨b.bw,0,none⟩),.int .i64 (t:Int),.int .i64 addr] ?_
      refine (KF b.bw b.gs b.cap b.bpp b.gp b.capp b.spin T2 b.rest b.restp b.cs t addr _ HV.out.waits HQ5.out.1 HQ5.out.2).mono ?_
      rintro e w7 ⟨⟨vr,rfl⟩,hm,hP⟩
      refine ⟨_,rfl,?_⟩
      have hk7:=Kept.waits HV.out hm
      replace HV:=aA.mk (HV.out.mL hm hP)
      replace HK:=aA.mk (HK.out.trans hk7)
      replace NZ:=aA.mk (hk7.ne NZ.out)
      replace HR:=aA.mk (hk7.R HR.out (by intro y hy;rcases List.mem_cons.1 hy with rfl|hy;exact ⟨by simp,by decide⟩;cases hy))
      clear hm hP hk7 hHeld
      refine hK.out _ _ ⟨HV.out.bI,NZ.out⟩ (fun hHeld=>?_)
      clear hK K
      refine nor_ ?_
      refine eO (by kernel_rfl) ?_
      go_wp2
      go_ret
      obtain rfl:=HTE.out
      refine ⟨rfl,HK.out,⟨v,?_⟩⟩
      have hme:=HV.out
      rw [← VO] at hme
      exact hme
def fV (s:MS) (k:Nat):MS:=(List.range k).foldl (fun s u=>if pC s u=true∧fY s u=true then jP s u else s) { s with now:=s.now+1 }
theorem JZ (s:MS):fV s s.th.length=tM s:=rfl
theorem FB (s:MS) (k:Nat):fV s (k+1)=if pC (fV s k) k=true∧fY (fV s k) k=true then jP (fV s k) k else fV s k:=by
 unfold fV
 rw [List.range_succ,List.foldl_append,List.foldl_cons,List.foldl_nil]
theorem PK (s:MS) (k:Nat):∃ pm:List Bool,fV s k= { s with now:=s.now+1,pm:=pm } ∧pm.length=s.pm.length:=
 uI _ (fun s u=>by
  split
  ·exact vT s u
  ·exact ⟨s.pm,rfl,rfl⟩) _ _
theorem VA (s:MS) (t:Nat):jP s t= { s with sl:=(jP s t).sl,pm:=(jP s t).pm } :=by
 unfold jP
 split <;> rfl
theorem IP (b:MB) (p:dU) (N:Nat) (s:MS) (w:World) (h:MW w b p s) (ho:lG p N s) (hN:N≤1000000):
  Calls Tryz.prog 36 #[.pointer (some ⟨b.bm,0,none⟩)] w fun e w'=>e= .returned (.tuple #[])∧Kept b.B w w'∧MW w' b p (tM s):=by
 obtain ⟨v,h⟩:=h
 have H:=aA.mk h
 have HO:=aA.mk ho
 have c3:=(aC h.bI 3).trans rfl
 have c4:=(aC h.bI 4).trans rfl
 have f4:=aG h.bI 4
 have hs:wrap64 (s.now+1)=s.now+1:=by have:=ho.now;unfold wrap64;omega
 have h64:s.th.length≤64:=by have:=ho.nth;have:=ho.code.g.n64;omega
 have HN:=aA.mk h64
 have zb:=aZ h.bI
 have hv1:=h.toNow (s.now+1)
 have HV:=aA.mk hv1
 have HK:=aA.mk (Kept.seen h (((Mod.refl (fun q=>q=b.bm∨v.ownBlock=some q) w).setCell (p:=⟨b.bm,4,none⟩) (.inl rfl) (.int .i64 (s.now+1)))))
 clear h ho hN hv1
 go_enter Tryz.func36,Tryz.ntmps36
 go_wp2_with fail
 generalize w.setCell ⟨b.bm,4,none⟩ (.int .i64 (s.now+1))=w1 at HV HK ⊢
 clear c3 c4 f4 hs
 go_loopw [17] (fun i wr=>∃ (k:Nat),k≤s.th.length∧i= .int .i64 k∧aA (Kept b.B w wr)∧aA (MV wr b p (fV s k) v)) (fun i _=>s.th.length - (intOf i).toNat)
 case atStart=>exact ⟨0,Nat.zero_le _,rfl,HK,HV⟩
 case round=>
  clear HV HK
  obtain ⟨k,hk,rfl,HK,HV⟩:=hrel
  by_cases hlt:k<s.th.length
  ·have hT:decide ((k:Int)<(s.th.length:Int))=true:=decide_eq_true (by omega)
   have i1:(k:Int)<(s.th.length:Int):=by omega
   obtain ⟨pm,epm,hpm⟩:=PK s k
   have hst:=FB s k
   have hsl:k<(fV s k).sl.length:=by rw [epm];show k<s.sl.length;have:=HO.out.nsl;have:=HO.out.nth;omega
   have htl:k<(fV s k).th.length:=by rw [epm];exact hlt
   have htl64:(fV s k).th.length≤64:=by rw [epm];exact h64
   have PP:=aA.mk (CX b.bw b.gs b.cap b.bpp b.gp b.capp b.spin (fV s k) b.rest b.restp b.cs k wr HV.out.waits hsl)
   have PL:=aA.mk (wP b p (fV s k) k wr ⟨_,HV.out⟩ htl htl64)
   have c1:=(aC HV.out.bI 1).trans rfl
   have HSL:=aA.mk hsl
   clear epm hpm hsl htl htl64
   revert hst PP PL
   generalize pC (fV s k) k=pk
   generalize fY (fV s k) k=lt
   intro hst PP PL
   have HST:=aA.mk hst
   clear hst
   cases pk
   ·have hst:=HST.out.trans (if_neg (fun hh=>by cases hh.1))
    clear HST PL
    go_wp2_with (go_at_call 71;refine PP.out.mono ?_;rintro e w9 ⟨⟨a,rfl⟩,rfl⟩)
    go_roundw
    case rel=>exact ⟨k+1,by omega,by go_num,HK,⟨by rw [hst];exact HV.out⟩⟩
    case measure=>simp [intOf];omega
   ·cases lt
    ·have hst:=HST.out.trans (if_neg (fun hh=>by cases hh.2))
     clear HST
     go_wp2_with (first|(go_at_call 71;refine PP.out.mono ?_;rintro e w9 ⟨⟨a,rfl⟩,rfl⟩)|(go_at_call 66;refine PL.out.mono ?_;rintro e w9 ⟨rfl,hb⟩;have HK9:=aA.mk (HK.out.step hb);have HV9:=aA.mk (HV.out.below hb);clear hb HK HV PP PL c1))
     go_roundw
     case rel=>exact ⟨k+1,by omega,by go_num,HK9,⟨by rw [hst];exact HV9.out⟩⟩
     case measure=>simp [intOf];omega
    ·have hst:=HST.out.trans (if_pos ⟨rfl,rfl⟩)
     have HST2:=aA.mk hst
     clear HST hst
     go_wp2_with (first|(go_at_call 71;refine PP.out.mono ?_;rintro e w9 ⟨⟨a,rfl⟩,rfl⟩)|(go_at_call 66;refine PL.out.mono ?_;rintro e w9 ⟨rfl,hb⟩;have HK9:=aA.mk (HK.out.step hb);have HV9:=aA.mk (HV.out.below hb);clear hb HK HV PP PL c1;have c1:=(aC HV9.out.bI 1).trans rfl)|(go_at_call 72;refine (vM b.bw b.gs b.cap b.bpp b.gp b.capp b.spin (fV s k) b.rest b.restp b.cs k _ HV9.out.waits HSL.out).mono ?_;rintro e w8 ⟨⟨bb,rfl⟩,hm,hP⟩;have HK8:=aA.mk (HK9.out.trans (Kept.waits HV9.out hm));have HV8:=aA.mk (HV9.out.mL hm hP);clear hm hP HK9 HV9 c1))
     go_roundw
     case rel=>exact ⟨k+1,by omega,by go_num,HK8,⟨by rw [HST2.out,VA];exact HV8.out⟩⟩
     case measure=>simp [intOf];omega
  ·have e:k=s.th.length:=by omega
   subst e
   have hT:decide ((s.th.length:Int)<(s.th.length:Int))=false:=decide_eq_false (by omega)
   go_wp2
   go_end0
   exact ⟨rfl,HK.out,⟨v,by rw [← JZ];exact HV.out⟩⟩
def oV (b1 b2 b3 th b4 tr b6 b7 b8 st0 b9 st2:Bool):Int:=if b1 || b2 then 8 else if b3 then 0 else if !th then 4 else if b4&&!tr then 6 else if b4&&(b6 || b7) then 1 else if (b8 || b4)&&st0 then 2 else if b9&&st2 then 3 else 0
theorem WH (tr:Bool) (s:MS) (kd t wt:Int):iD tr s kd t wt=oV (decide (kd<1)) (decide (5<kd)) (kd==2) (decide (0≤t∧t<s.th.length)) (kd==4) tr (decide (wt<0)) (decide (1073741824<wt)) (kd==3) ((s.th.getD t.toNat dE).state != 0) (kd==5) ((s.th.getD t.toNat dE).state != 2):=by
 unfold iD oV
 simp only [Bool.or_eq_true,decide_eq_true_eq,beq_iff_eq,Bool.not_eq_true',decide_eq_false_iff_not,Bool.and_eq_true,bne_iff_ne]
theorem IJ (b:MB) (p:dU) (s:MS) (kd t wt:Int) (w:World) (h:MW w b p s) (h64:s.th.length≤64):
  Calls Tryz.prog 34 #[.pointer (some ⟨b.bm,0,none⟩),.agg #[.int .i64 kd,.int .i64 t,.int .i64 wt]] w fun e w'=>e= .returned (.int .i64 (iD b.tr s kd t wt))∧Below w.heap.size w w':=by
 rw [WH]
 have hth:=tB b p s t
 have PT:=aA.mk (fun W (hW:MW W b p s)=>tB b p s t W hW)
 have HB:=aA.mk (aD (Below.refl w.heap.size w) (.cells #[.int .i64 kd,.int .i64 t,.int .i64 wt] 47))
 have H:=aA.mk (h.below HB.out)
 obtain ⟨v,hv⟩:=h
 have zb:=aZ hv.bI
 have c2:=(aC hv.bI 2).trans rfl
 have c3:=(aC hv.bI 3).trans rfl
 have HTH:=aA.mk (fun (ht:0≤t∧t<s.th.length)=>(RP hv.qC t.toNat (by omega)).1)
 have HG:=aA.mk (fun (ht:0≤t∧t<s.th.length)=>(show (s.th.getD t.toNat dE)=s.th[t.toNat]'(by omega) from getD_at (by omega)))
 clear hth hv
 generalize b.tr=tr at c2 ⊢
 cases h1:decide (kd<1)
 rotate_left
 ·clear PT HTH HG
  go_enter Tryz.func34,Tryz.ntmps34
  go_wp2
  go_ret
  exact ⟨rfl,HB.out⟩
 cases h2:decide (5<kd)
 rotate_left
 ·clear PT HTH HG
  go_enter Tryz.func34,Tryz.ntmps34
  go_wp2
  go_ret
  exact ⟨rfl,HB.out⟩
 cases h3:(kd==2)
 rotate_left
 ·clear PT HTH HG
  go_enter Tryz.func34,Tryz.ntmps34
  go_wp2
  go_ret
  exact ⟨rfl,HB.out⟩
 obtain ⟨th,hth⟩:∃ th,th=decide (0≤t∧t<s.th.length):=⟨_,rfl⟩
 rw [← hth] at PT ⊢
 have HTB:=aA.mk hth
 clear hth
 cases th
 ·go_enter Tryz.func34,Tryz.ntmps34
  go_wp2_with (go_at_call 38;refine (PT.out _ H.out).mono ?_;rintro e w9 ⟨rfl,rfl⟩)
  go_ret
  exact ⟨rfl,HB.out⟩
 have ht:=of_decide_eq_true HTB.out.symm
 have s0:=HTH.out ht
 rw [HG.out ht]
 obtain ⟨t',rfl⟩:=Int.eq_ofNat_of_zero_le ht.1
 have i1:(t':Int)<(s.th.length:Int):=ht.2
 have i0:(0:Int)≤(t':Int):=by omega
 have i2:(s.th.length:Int)≤64:=by omega
 simp only [Int.toNat_natCast] at s0 ⊢
 generalize (s.th[t']'(by omega)).state=x0 at s0 ⊢
 generalize s.th.length=tn at c3 i1 i2
 clear HTH HG HTB ht
 cases h4:(kd==4)
 ·cases h8:(kd==3)
  ·cases h9:(kd==5)
   ·go_enter Tryz.func34,Tryz.ntmps34
    go_wp2_with (go_at_call 38;refine (PT.out _ H.out).mono ?_;rintro e w9 ⟨rfl,rfl⟩)
    go_quiet (fail)
    go_wp2_with fail
    go_quiet (fail)
    go_wp2_with fail
    go_ret
    exact ⟨by first|rfl|simp [oV],by repeat (first|exact HB.out|apply aH)⟩
   ·obtain rfl:kd=5:=by simpa using h9
    cases h10:(x0 != 2)
    all_goals
     go_enter Tryz.func34,Tryz.ntmps34
     go_wp2_with (go_at_call 38;refine (PT.out _ H.out).mono ?_;rintro e w9 ⟨rfl,rfl⟩)
     go_quiet (fail)
     go_wp2_with fail
     have HB2:=aA.mk (aH HB.out nq)
     have N47:=aA.mk (show ((w.alloc (.cells #[.int .i64 5,.int .i64 (t':Int),.int .i64 wt] 47)).drewN nq).heap[w.heap.size]?=some (.cells #[.int .i64 5,.int .i64 (t':Int),.int .i64 wt] 47 (0,0)) from bF w _)
     have d3:=(HB2.out.cell (World.block_lt_of_cell? w _ c3)).trans c3
     have d0:=(HB2.out.cell (World.block_lt_of_cell? w _ s0)).trans s0
     generalize ((w.alloc (.cells #[.int .i64 5,.int .i64 (t':Int),.int .i64 wt] 47)).drewN nq)=w5 at HB2 N47 d3 d0 ⊢
     have e0:=(aC N47.out 0).trans rfl
     have e1:=(aC N47.out 1).trans rfl
     clear c2 c3 s0
     go_quiet (fail)
     go_wp2_with fail
     go_ret
     exact ⟨by first|rfl|simp [oV],by repeat (first|exact HB2.out|apply aH)⟩
  ·obtain rfl:kd=3:=by simpa using h8
   cases h10:(x0 != 0)
   ·go_enter Tryz.func34,Tryz.ntmps34
    go_wp2_with (go_at_call 38;refine (PT.out _ H.out).mono ?_;rintro e w9 ⟨rfl,rfl⟩)
    have N47:=aA.mk (bF w (.cells #[.int .i64 3,.int .i64 (t':Int),.int .i64 wt] 47))
    have d3:=(HB.out.cell (World.block_lt_of_cell? w _ c3)).trans c3
    have d0:=(HB.out.cell (World.block_lt_of_cell? w _ s0)).trans s0
    generalize w.alloc (.cells #[.int .i64 3,.int .i64 (t':Int),.int .i64 wt] 47)=w5 at HB N47 d3 d0 ⊢
    have e0:=(aC N47.out 0).trans rfl
    have e1:=(aC N47.out 1).trans rfl
    clear c2 c3 s0
    go_quiet (fail)
    go_wp2_with fail
    go_quiet (fail)
    go_wp2_with fail
    go_ret
    exact ⟨by first|rfl|simp [oV],by repeat (first|exact HB.out|apply aH)⟩
   ·go_enter Tryz.func34,Tryz.ntmps34
    go_wp2_with (go_at_call 38;refine (PT.out _ H.out).mono ?_;rintro e w9 ⟨rfl,rfl⟩)
    have N47:=aA.mk (bF w (.cells #[.int .i64 3,.int .i64 (t':Int),.int .i64 wt] 47))
    have d3:=(HB.out.cell (World.block_lt_of_cell? w _ c3)).trans c3
    have d0:=(HB.out.cell (World.block_lt_of_cell? w _ s0)).trans s0
    generalize w.alloc (.cells #[.int .i64 3,.int .i64 (t':Int),.int .i64 wt] 47)=w5 at HB N47 d3 d0 ⊢
    have e0:=(aC N47.out 0).trans rfl
    have e1:=(aC N47.out 1).trans rfl
    clear c2 c3 s0
    go_quiet (fail)
    go_wp2_with fail
    go_ret
    exact ⟨by first|rfl|simp [oV],by repeat (first|exact HB.out|apply aH)⟩
 ·obtain rfl:kd=4:=by simpa using h4
  cases tr
  ·go_enter Tryz.func34,Tryz.ntmps34
   go_wp2_with (go_at_call 38;refine (PT.out _ H.out).mono ?_;rintro e w9 ⟨rfl,rfl⟩)
   go_ret
   exact ⟨by first|rfl|simp [oV],HB.out⟩
  cases h6:decide (wt<0)
  rotate_left
  ·go_enter Tryz.func34,Tryz.ntmps34
   go_wp2_with (go_at_call 38;refine (PT.out _ H.out).mono ?_;rintro e w9 ⟨rfl,rfl⟩)
   go_ret
   exact ⟨by first|rfl|simp [oV],HB.out⟩
  cases h7:decide (1073741824<wt)
  rotate_left
  ·go_enter Tryz.func34,Tryz.ntmps34
   go_wp2_with (go_at_call 38;refine (PT.out _ H.out).mono ?_;rintro e w9 ⟨rfl,rfl⟩)
   go_ret
   exact ⟨by first|rfl|simp [oV],HB.out⟩
  cases h10:(x0 != 0)
  ·go_enter Tryz.func34,Tryz.ntmps34
   go_wp2_with (go_at_call 38;refine (PT.out _ H.out).mono ?_;rintro e w9 ⟨rfl,rfl⟩)
   have N47:=aA.mk (bF w (.cells #[.int .i64 4,.int .i64 (t':Int),.int .i64 wt] 47))
   have d3:=(HB.out.cell (World.block_lt_of_cell? w _ c3)).trans c3
   have d0:=(HB.out.cell (World.block_lt_of_cell? w _ s0)).trans s0
   generalize w.alloc (.cells #[.int .i64 4,.int .i64 (t':Int),.int .i64 wt] 47)=w5 at HB N47 d3 d0 ⊢
   have e0:=(aC N47.out 0).trans rfl
   have e1:=(aC N47.out 1).trans rfl
   clear c2 c3 s0
   go_quiet (fail)
   go_wp2_with fail
   go_quiet (fail)
   go_wp2_with fail
   go_ret
   exact ⟨by first|rfl|simp [oV],by repeat (first|exact HB.out|apply aH)⟩
  ·go_enter Tryz.func34,Tryz.ntmps34
   go_wp2_with (go_at_call 38;refine (PT.out _ H.out).mono ?_;rintro e w9 ⟨rfl,rfl⟩)
   have N47:=aA.mk (bF w (.cells #[.int .i64 4,.int .i64 (t':Int),.int .i64 wt] 47))
   have d3:=(HB.out.cell (World.block_lt_of_cell? w _ c3)).trans c3
   have d0:=(HB.out.cell (World.block_lt_of_cell? w _ s0)).trans s0
   generalize w.alloc (.cells #[.int .i64 4,.int .i64 (t':Int),.int .i64 wt] 47)=w5 at HB N47 d3 d0 ⊢
   have e0:=(aC N47.out 0).trans rfl
   have e1:=(aC N47.out 1).trans rfl
   clear c2 c3 s0
   go_quiet (fail)
   go_wp2_with fail
   go_ret
   exact ⟨by first|rfl|simp [oV],by repeat (first|exact HB.out|apply aH)⟩
theorem O4 {tr:Bool} {s:MS} {kd t wt:Int} (h:iD tr s kd t wt=0):kd=1∨kd=2∨kd=3∨kd=4∨kd=5:=by
 unfold iD at h
 split at h
 ·cases h
 ·omega
theorem N3 {tr:Bool} {s:MS} {t wt:Int} (h:iD tr s 4 t wt=0):0≤wt∧wt≤1073741824:=by
 have hT:=mS h (by decide)
 unfold iD at h
 rw [if_neg (by decide),if_neg (by decide),if_neg (fun hh=>hh hT)] at h
 split at h
 ·cases h
 split at h
 ·cases h
 ·rename_i h1
  omega
theorem UE (b:MB) (p:dU) (N:Nat) (s:MS) (kd t wt:Int) (w:World) (h:MW w b p s) (ho:lG p N s) (hN:N≤1000000) (hl:gD w):
  Calls Tryz.prog 13 #[.pointer (some ⟨b.bm,0,none⟩),.agg #[.int .i64 kd,.int .i64 t,.int .i64 wt]] w fun e w'=>e= .returned (.tuple #[.bool (nO p b.spin b.tr s kd t wt).1,.int .i64 (iD b.tr s kd t wt)])∧Kept b.B w w'∧MW w' b p (nO p b.spin b.tr s kd t wt).2:=by
 have HB:=aA.mk (aD (Below.refl w.heap.size w) (.cells #[.int .i64 kd,.int .i64 t,.int .i64 wt] 47))
 have N47:=aA.mk (bF w (.cells #[.int .i64 kd,.int .i64 t,.int .i64 wt] 47))
 have H:=aA.mk (h.below HB.out)
 have HL:=aA.mk (hl.below HB.out)
 have HO:=aA.mk ho
 have HN:=aA.mk hN
 have PB:=aA.mk (fun W (hW:MW W b p s)=>IJ b p s kd t wt W hW (by have:=ho.nth;have:=ho.code.g.n64;omega))
 clear h ho hN hl
 by_cases hb:iD b.tr s kd t wt=0
 rotate_left
 ·have hd:nO p b.spin b.tr s kd t wt=(false,s):=if_pos hb
  rw [hd]
  have e0:(iD b.tr s kd t wt != 0)=true:=by simp [hb]
  clear hb hd
  generalize iD b.tr s kd t wt=f at PB e0 ⊢
  go_enter Tryz.func13,Tryz.ntmps13
  go_wp2_with (go_at_call 34;refine (PB.out _ H.out).mono ?_;rintro e w9 ⟨rfl,hb⟩;have HK:=aA.mk ((Kept.below (B:=b.B) HB.out).step hb);have HM:=aA.mk (H.out.below hb);clear hb PB)
  go_ret2
  exact ⟨rfl,HK.out,HM.out⟩
 have hT:=fun (h2:kd≠2)=>mS hb h2
 have hW:=fun (h4:kd=4)=>N3 (wt:=wt) (t:=t) (s:=s) (tr:=b.tr) (by rw [← h4];exact hb)
 have HD:=aA.mk (show nO p b.spin b.tr s kd t wt=(if kd=1 then if fD s t.toNat=true then (true,fK p b.spin s t.toNat) else (false,s) else if kd=2 then (true,tM s) else if kd=3 then (true,gL p s t.toNat 1 1 (-1)) else if kd=4 then (true,gL p s t.toNat 1 1 (s.now+wt)) else (true,gL p s t.toNat 8 3 (-1))) from if_neg (fun hh=>hh hb))
 rw [hb] at PB ⊢
 rcases O4 hb with rfl|rfl|rfl|rfl|rfl
 ·have ht:=hT (by decide)
  clear hT hW hb
  obtain ⟨t',rfl⟩:=Int.eq_ofNat_of_zero_le ht.1
  have PC:=aA.mk (fun W (hW:MW W b p s) (hL:gD W)=>IH b p N s t' W hW HO.out HN.out hL (by omega))
  rw [HD.out,if_pos rfl]
  simp only [Int.toNat_natCast]
  have e:(if fD s t'=true then (true,fK p b.spin s t') else (false,s))=(fD s t',if fD s t'=true then fK p b.spin s t' else s):=by cases fD s t' <;> rfl
  rw [e]
  clear e HD
  dsimp only
  generalize (if fD s t'=true then fK p b.spin s t' else s)=S9 at PC ⊢
  generalize fD s t'=ok at PC ⊢
  go_enter Tryz.func13,Tryz.ntmps13
  go_wp2_with (first|(go_at_call 34;refine (PB.out _ H.out).mono ?_;rintro e w9 ⟨rfl,hb⟩;have HK:=aA.mk ((Kept.below (B:=b.B) HB.out).step hb);have HM:=aA.mk (H.out.below hb);have HLL:=aA.mk (HL.out.below hb);have N2:=aA.mk (aE N47.out hb);clear hb PB;have e0:=(aC N2.out 0).trans rfl;have e1:=(aC N2.out 1).trans rfl)|(go_at_call 35;refine (PC.out _ HM.out HLL.out).mono ?_;rintro e w8 ⟨rfl,hk,hm⟩;have HKE:=aA.mk (HK.out.trans hk);have HME:=aA.mk hm;clear hk hm PC))
  go_ret2
  exact ⟨rfl,HKE.out,HME.out⟩

 ·clear hT hW hb
  rw [HD.out,if_neg (by decide),if_pos rfl]
  clear HD
  go_enter Tryz.func13,Tryz.ntmps13
  go_wp2_with (first|(go_at_call 34;refine (PB.out _ H.out).mono ?_;rintro e w9 ⟨rfl,hb⟩;have HK:=aA.mk ((Kept.below (B:=b.B) HB.out).step hb);have HM:=aA.mk (H.out.below hb);have HLL:=aA.mk (HL.out.below hb);have N2:=aA.mk (aE N47.out hb);clear hb PB;have e0:=(aC N2.out 0).trans rfl;have e1:=(aC N2.out 1).trans rfl)|(go_at_call 36;refine (IP b p N s _ HM.out HO.out HN.out).mono ?_;rintro e w8 ⟨rfl,hk,hm⟩;have HKE:=aA.mk (HK.out.trans hk);have HME:=aA.mk hm;clear hk hm))
  go_ret2
  exact ⟨rfl,HKE.out,HME.out⟩

 ·have ht:=hT (by decide)
  clear hT hW hb
  obtain ⟨t',rfl⟩:=Int.eq_ofNat_of_zero_le ht.1
  rw [HD.out,if_neg (by decide),if_neg (by decide),if_pos rfl]
  simp only [Int.toNat_natCast]
  clear HD
  go_enter Tryz.func13,Tryz.ntmps13
  go_wp2_with (first|(go_at_call 34;refine (PB.out _ H.out).mono ?_;rintro e w9 ⟨rfl,hb⟩;have HK:=aA.mk ((Kept.below (B:=b.B) HB.out).step hb);have HM:=aA.mk (H.out.below hb);have HLL:=aA.mk (HL.out.below hb);have N2:=aA.mk (aE N47.out hb);clear hb PB;have e0:=(aC N2.out 0).trans rfl;have e1:=(aC N2.out 1).trans rfl)|(go_at_call 37;refine (pZ b p N s t' 1 1 (-1) _ HM.out HO.out HN.out HLL.out (by omega)).mono ?_;rintro e w8 ⟨rfl,hk,hm⟩;have HKE:=aA.mk (HK.out.trans hk);have HME:=aA.mk hm;clear hk hm))
  go_ret2
  exact ⟨rfl,HKE.out,HME.out⟩

 ·have ht:=hT (by decide)
  have hwt:=hW rfl
  clear hT hW hb
  obtain ⟨t',rfl⟩:=Int.eq_ofNat_of_zero_le ht.1
  rw [HD.out,if_neg (by decide),if_neg (by decide),if_neg (by decide),if_pos rfl]
  simp only [Int.toNat_natCast]
  have hs:wrap64 (s.now+wt)=s.now+wt:=by have:=HO.out.now;have:=HN.out;unfold wrap64;omega
  have hs2:IntKind.i64.wrap (s.now+wt)=s.now+wt:=IntWalk.i64_in _ (by have:=HO.out.now;have:=HN.out;omega)
  have PC:=aA.mk (fun W (hW:MW W b p s) (hL:gD W)=>pZ b p N s t' 1 1 (s.now+wt) W hW HO.out HN.out hL (by omega))
  clear HD ht hwt
  go_enter Tryz.func13,Tryz.ntmps13
  go_wp2_with (go_at_call 34;refine (PB.out _ H.out).mono ?_;rintro e w9 ⟨rfl,hb⟩;have HK:=aA.mk ((Kept.below (B:=b.B) HB.out).step hb);have HM:=aA.mk (H.out.below hb);have HLL:=aA.mk (HL.out.below hb);have N2:=aA.mk (aE N47.out hb);clear hb PB;have e0:=(aC N2.out 0).trans rfl;have e1:=(aC N2.out 1).trans rfl)
  obtain ⟨v,hv⟩:=HM.out
  have NB:=aA.mk hv.bI
  clear hv e0 e1

  refine dB (n:=11) (S:=fun w'=>w'.heap[b.bm]?=some (.cells #[.pointer (some ⟨b.x.be,0,none⟩),.pointer (some ⟨b.bw,0,none⟩),.bool b.tr,.slice (some ⟨b.gl,0,none⟩) s.th.length s.th.length,.int .i64 s.now,v] 76 (0,0))∧w'.heap[w.heap.size]?=some (.cells #[.int .i64 4,.int .i64 (t':Int),.int .i64 wt] 47 (0,0))) (ds:= [10]) #[false,false,false,false,false,false,false,false,false,false,false] (by kernel_rfl) rfl rfl ⟨NB.out,N2.out⟩ (fun hHeld=>?_)
  replace NB:=aA.mk (drew_ NB.out)
  replace N2:=aA.mk (drew_ N2.out)
  replace HM:=aA.mk (HM.out.below (bG (Below.refl _ _)))
  replace HLL:=aA.mk (HLL.out.below (bG (Below.refl _ _)))
  replace HK:=aA.mk (HK.out.drew)
  generalize w9.drew=w2 at NB N2 HM HLL HK hHeld ⊢
  refine pur_ 0 33 ?_
  refine pur_ 1 34 ?_
  refine pur_ 3 36 ?_
  refine pur_ 4 37 ?_
  refine pur_ 5 38 ?_
  refine pur_ 7 40 ?_
  refine tak_ 2 35 (.int .i64 (t':Int)) ?_ hHeld ?_
  ·intro w' hS
   have e1:=(aC hS.2 1).trans rfl
   clear hHeld hS
   go_simp
  refine tak_ 6 39 (.int .i64 s.now) ?_ hHeld ?_
  ·intro w' hS
   have c4:=(aC hS.1 4).trans rfl
   clear hHeld hS
   go_simp
  refine tak_ 8 41 (.int .i64 wt) ?_ hHeld ?_
  ·intro w' hS
   have e2:=(aC hS.2 2).trans rfl
   clear hHeld hS
   go_simp
  refine pure_ (i:=9) (N:=some 42) (v:= .int .i64 (s.now+wt)) (a':=?_) #[true,true,true,true,true,true,true,true,true,true,false] rfl rfl (by kernel_rfl) (fun _ _ _ h=>h) (Or.inl ⟨by rfl,?_⟩) ?_ ?_
  ·intro w'
   go_simp
  rotate_left
  ·simp only [Act.put,List.setIfInBounds_toArray,List.set_cons_zero,List.set_cons_succ,GD,EW]
   rfl
  refine fX (i:=10) (N:=some 43) #[true,true,true,true,true,true,true,true,true,true,true] rfl rfl (by kernel_rfl) (by decide) (fun K hK=>?_)
  refine goe_ Tryz.func37 #[.pointer (some ⟨b.bm,0,none⟩),.int .i64 (t':Int),.int .i64 1,.int .i64 1,.int .i64 (s.now+wt)] ?_
  refine (PC.out _ HM.out HLL.out).mono ?_
  rintro e w8 ⟨rfl,hk,hm⟩
  refine ⟨_,rfl,?_⟩
  have HKE:=aA.mk (HK.out.trans hk)
  have HME:=aA.mk hm
  clear hk hm NB N2 HM HLL HK hHeld
  refine hK.out _ _ ?_
  clear hK K
  refine nor_ ?_
  refine eO (by kernel_rfl) ?_
  go_wp2
  go_ret2
  exact ⟨rfl,HKE.out,HME.out⟩

 ·have ht:=hT (by decide)
  clear hT hW hb
  obtain ⟨t',rfl⟩:=Int.eq_ofNat_of_zero_le ht.1
  rw [HD.out,if_neg (by decide),if_neg (by decide),if_neg (by decide),if_neg (by decide)]
  simp only [Int.toNat_natCast]
  clear HD
  go_enter Tryz.func13,Tryz.ntmps13
  go_wp2_with (first|(go_at_call 34;refine (PB.out _ H.out).mono ?_;rintro e w9 ⟨rfl,hb⟩;have HK:=aA.mk ((Kept.below (B:=b.B) HB.out).step hb);have HM:=aA.mk (H.out.below hb);have HLL:=aA.mk (HL.out.below hb);have N2:=aA.mk (aE N47.out hb);clear hb PB;have e0:=(aC N2.out 0).trans rfl;have e1:=(aC N2.out 1).trans rfl)|(go_at_call 37;refine (pZ b p N s t' 8 3 (-1) _ HM.out HO.out HN.out HLL.out (by omega)).mono ?_;rintro e w8 ⟨rfl,hk,hm⟩;have HKE:=aA.mk (HK.out.trans hk);have HME:=aA.mk hm;clear hk hm))
  go_ret2
  exact ⟨rfl,HKE.out,HME.out⟩
theorem IN (b:MB) (p:dU) (N:Nat) (s:MS) (kd t wt:Int) (g:Nat) (w:World) (h:MW w b p s) (ho:lG p N s) (hN:N≤1000000) (hl:gD w) (hg:w.heap[g]?=some (.cells #[.int .i64 kd,.int .i64 t,.int .i64 wt] 47 (0,0))):
  Calls Tryz.prog 18 #[.pointer (some ⟨b.bm,0,none⟩),.slice (some ⟨g,0,none⟩) 1 1] w fun e w'=>(∃ c:Int,e= .returned (.int .i64 c))∧Kept b.B w w'∧MW w' b p (nO p b.spin b.tr s kd t wt).2:=by
 have H:=aA.mk h
 have HL:=aA.mk hl
 have HG:=aA.mk hg
 have PD:=aA.mk (fun W (hW:MW W b p s) (hL:gD W)=>UE b p N s kd t wt W hW ho hN hL)
 clear h ho hN hl hg
 generalize nO p b.spin b.tr s kd t wt=r at PD ⊢
 generalize iD b.tr s kd t wt=f at PD
 obtain ⟨ok,S2⟩:=r
 dsimp only at PD ⊢
 go_enter Tryz.func18,Tryz.ntmps18
 go_wp2_with fail
 go_loopw [5,12] (fun n i wr=>∃ (k:Nat) (c:Int),k≤1∧i= .int .i64 k∧n= .int .i64 c∧ -1≤c∧c≤k∧aA (Kept b.B w wr)∧aA (MW wr b p (if k=0 then s else S2))) (fun _ i _=>1 - (intOf i).toNat)
 case atStart=>exact ⟨0,0,by omega,rfl,rfl,by omega,by omega,⟨Kept.refl _ _⟩,H⟩
 case round=>
  obtain ⟨k,c,hk,rfl,rfl,hc0,hc1,HK,HM⟩:=hrel
  by_cases hlt:k<1
  ·obtain rfl:k=0:=by omega
   rw [if_pos rfl] at HM
   have hG:=HK.out.cells HG.out (by simp) (by decide)
   have g0:=(aC hG 0).trans rfl
   have g1:=(aC hG 1).trans rfl
   have g2:=(aC hG 2).trans rfl
   have hb:=aD (Below.refl wr.heap.size wr) (.cells #[.int .i64 kd,.int .i64 t,.int .i64 wt] 47)
   have PD2:=aA.mk (PD.out _ (HM.out.below hb) ((HL.out.kept HK.out).below hb))
   have HB:=aA.mk hb
   have hs:IntKind.i64.wrap (c+1)=c+1:=IntWalk.i64_in _ (by omega)
   have hs2:wrap64 (c+1)=c+1:=by unfold wrap64;omega
   clear hG hb
   cases ok
   ·go_wp2_with (go_at_call 13;refine PD2.out.mono ?_;rintro e w9 ⟨rfl,hk,hm⟩;have HK9:=aA.mk ((HK.out.step HB.out).trans hk);have HM9:=aA.mk hm;clear hk hm PD2 HK HM g0 g1 g2 HB)
    go_roundw
    case rel=>exact ⟨1,c,by omega,by go_num,rfl,by omega,by omega,HK9,⟨by rw [if_neg (by decide)];exact HM9.out⟩⟩
    case measure=>simp [intOf]
   ·go_wp2_with (go_at_call 13;refine PD2.out.mono ?_;rintro e w9 ⟨rfl,hk,hm⟩;have HK9:=aA.mk ((HK.out.step HB.out).trans hk);have HM9:=aA.mk hm;clear hk hm PD2 HK HM g0 g1 g2 HB)
    go_roundw
    case rel=>exact ⟨1,c+1,by omega,by go_num,rfl,by omega,by omega,HK9,⟨by rw [if_neg (by decide)];exact HM9.out⟩⟩
    case measure=>simp [intOf]
  ·obtain rfl:k=1:=by omega
   rw [if_neg (by decide)] at HM
   go_wp2
   go_ret
   exact ⟨⟨c,rfl⟩,HK.out,HM.out⟩
theorem vF (A:Option Addr) (c:Nat) (xs:List LP) (w:World) (hC:Kd.C mH w A xs.length xs) (hc:xs.length≤c) (hn:A=none→xs= []) (hl:xs.length≤1000000000):Calls Tryz.prog 40 #[.slice A xs.length c] w fun e w'=>
  ∃ v,e= .returned v∧Kd.R mH 55 w' w.heap.size (fun _=>True) v xs∧Below w.heap.size w w':=by
 cases A with
 |none=>
  obtain rfl:=hn rfl
  clear hC hc hn hl
  have hq:=fun (W:World)=>Lib.run_eql_slice_nil (P:=Tryz.prog) W 52 55 none 0 c 0 0 Tryz.underlying52
  go_enter Tryz.func40,Tryz.ntmps40
  go_wp2
  go_ret
  exact ⟨_,rfl,Kd.lA _ _ _ _ _,Below.refl _ _⟩
 |some ad=>
  have HC:=aA.mk hC
  have HL:=aA.mk hl
  clear hC hc hn hl
  have hq:=fun (W:World)=>Lib.run_eql_slice_nil (P:=Tryz.prog) W 52 55 (some ad) xs.length c 0 0 Tryz.underlying52
  go_enter Tryz.func40,Tryz.ntmps40
  go_wp2_with ((with_reducible refine dT (b:= .append) (xs:=#[.tmp 5,.tmp 6]) rfl ?_);at_builtin;refine Kd.lV mH (Rr:=mH.K w) (w0:=w) w.heap.size rfl (.tmp 5) (.tmp 6) 52 55 (.agg #[.int .i64 0,.int .i64 0,.int .i64 0]) 24 rfl Tryz.underlying52 LO rfl (by decide) (by omega) _ [] xs (some ad) xs.length c (fun _=>True) (fun _=>False) rfl rfl ?aR (Kd.dV HC.out _) ?aM (fun _ hk=>hk.elim) (fun _ _=>trivial) (aD (Below.refl _ _) _) (by simp) (by have:=HL.out;simp;omega) ?_;(case aR=>exact BL _ _ _ _);(case aM=>intro x cs h;rw [BF h];exact vC _ _ _ _);intro v1 w8 ho hb hg hat)
  go_ret
  exact ⟨_,rfl,ho,hb⟩
theorem C_none {α:Type} {d:Kd α} {w:World} {xs:List α} (h:Kd.C d w none xs.length xs):xs= []:=by
 cases xs with
 |nil=>rfl
 |cons x xs=>
  obtain ⟨ad,c,e,_⟩:=Kd.L5 h x 0 (by omega) (by simp)
  cases e
theorem EE (b:MB) (p:dU) (s:MS) (w:World) (h:MW w b p s) (hl:s.seen.length≤1000000000):Calls Tryz.prog 17 #[.pointer (some ⟨b.bm,0,none⟩)] w fun e w'=>
  ∃ v,e= .returned v∧Kd.R mH 55 w' w.heap.size (fun _=>True) v s.seen∧Below w.heap.size w w':=by
 obtain ⟨v,h⟩:=h
 obtain ⟨A,c,rfl,hc,hC⟩:=Kd.bY h.seen
 have c5:=(aC h.bI 5).trans rfl
 have PC:=aA.mk (vF A c s.seen w hC hc (fun e=>by subst e;exact C_none hC) hl)
 clear h hc hC hl
 generalize s.seen.length=n at PC c5
 go_enter Tryz.func17,Tryz.ntmps17
 go_wp2_with (go_at_call 40;refine PC.out.mono ?_;rintro e w9 ⟨v,rfl,hR,hb⟩)
 go_ret
 exact ⟨v,rfl,hR,hb⟩
end Go.Proofs.YtjopodnlffaogaaGreatDoor.Tp
end
