/- A part of the proof of TopSame: TmHd, TmPl, TmOne, TmRun, TmCore9, TmAddr, TmExRun. -/
import Derived.Test.YtjopodnlffaogaaGreatDoorSL3
import Derived.Test.YtjopodnlffaogaaGreatDoorSM0
import Derived.Maps.Own
import Derived.Maps.OwnOps
import Derived.Maps.OwnSet
import Derived.Maps.Views
import Derived.RegionTactic
import Derived.BigRegion
import Derived.Deep.RegionWith
set_option linter.unusedVariables false
set_option linter.unusedSimpArgs false
set_option maxRecDepth 100000
set_option maxHeartbeats 4000000
section
namespace Go.Proofs.YtjopodnlffaogaaGreatDoor.Tp
open Go.RowKit Go.Proofs.YtjopodnlffaogaaGreatDoorW.PrintWords Go.Proofs.YtjopodnlffaogaaGreatDoorW.PrintLast Go.Proofs.YtjopodnlffaogaaGreatDoorW.PrintMore
attribute [local go_sem] aU aQ aY aX aI aJ aT aN
theorem A8 (n:Int) (h₀:0≤n) (h₁:n<2 ^ 32):IntKind.u32.wrap n=n:=by rw [IntKind.wrap_u32];omega
theorem O8 (n:Int) (h₀:0≤n) (h₁:n<2 ^ 32):IntKind.i64.wrap n=n:=by rw [IntKind.wrap_i64];omega
theorem EL (h:Nat) (hh:h<4294967296):bits .and .u32 (h:Int) 4095=((h % 4096:Nat):Int):=(bits_mask .u32 32 (by decide) A8 12 (by decide) h (by omega) (by omega)).trans (by omega)
theorem GB (h:Nat) (hh:h<4294967296):bits .and .u32 (h:Int) 262143=((h % 262144:Nat):Int):=(bits_mask .u32 32 (by decide) A8 18 (by decide) h (by omega) (by omega)).trans (by omega)
def hIdx (h:Nat):Nat:=h % 4096
def tP (h:Nat):Nat:=h / 4096 % 262144
def eR (h:Nat):Nat:=(tP h+1) % 262144*4096+hIdx h
theorem xQ (h:Nat):eR h<4294967296:=by unfold eR hIdx;omega
theorem mQ (h:Nat) (hh:h<4294967296) (w:World):Calls Tryz.prog 183 #[.int .u32 (h:Int)] w fun e w'=>e= .returned (.int .i64 (hIdx h:Int))∧w=w':=by
 have e1:=EL h hh
 have e2:IntKind.i64.wrap ((h % 4096:Nat):Int)=(hIdx h:Int):=cD _ _ rfl (by unfold hIdx;omega)
 clear hh
 go_enter Tryz.func183,Tryz.ntmps183
 go_wp2
 go_ret
 exact ⟨rfl,rfl⟩
theorem JB (h:Nat) (hh:h<4294967296) (w:World):Calls Tryz.prog 216 #[.int .u32 (h:Int)] w fun e w'=>e= .returned (.int .i64 (tP h:Int))∧w=w':=by
 obtain ⟨q,hq⟩:∃ q:Nat,q=h / 4096:=⟨_,rfl⟩
 obtain ⟨g,hg⟩:∃ g:Nat,g=q % 262144:=⟨_,rfl⟩
 have e:tP h=g:=by unfold tP;rw [hg,hq]
 rw [e]
 have e0:((h:Int) / 4096)=(q:Int):=by rw [hq];rfl
 have e1:bits .and .u32 (q:Int) 262143=(g:Int):=by rw [hg];exact GB q (by omega)
 have e2:IntKind.i64.wrap (g:Int)=(g:Int):=cD _ _ rfl (by omega)
 clear hh hq hg e
 go_enter Tryz.func216,Tryz.ntmps216
 go_wp2
 go_ret
 exact ⟨rfl,rfl⟩
theorem NI (h:Nat):handle_New.f (hIdx h:Int) (((tP h+1) % 262144:Nat):Int)=some ((eR h:Int),0):=by
 have h1:hIdx h<4096:=Nat.mod_lt _ (by decide)
 have h2:(tP h+1) % 262144<262144:=Nat.mod_lt _ (by decide)
 unfold handle_New.f
 rw [if_neg (by omega),if_neg (by omega),if_neg (by omega),if_neg (by omega)]
 unfold eR
 generalize (tP h+1) % 262144=g at h2 ⊢
 generalize hIdx h=x at h1 ⊢
 have e1:wrap64 ((g:Int)*4096)=(g:Int)*4096:=by unfold wrap64;omega
 have e2:Go.bits .or .i64 ((g:Int)*4096) (x:Int)=(g:Int)*4096+(x:Int):=bits_join .i64 32 (by decide) O8 12 _ _ (by omega) (by omega) (by omega) (by omega) (by omega) (by omega)
 rw [e1,e2]
 have:((g:Int)*4096+(x:Int)) % 4294967296=((g*4096+x:Nat):Int):=by omega
 rw [this]
theorem tA (h:Nat) (hh:h<4294967296) (w:World):Calls Tryz.prog 182 #[.int .u32 (h:Int)] w fun e w'=>e= .returned (.int .u32 (eR h:Int))∧bS w w':=by
 have P1:=aA.mk (fun W:World=>mQ h hh W)
 have P2:=aA.mk (fun W:World=>JB h hh W)
 have P3:=aA.mk (fun W:World=>handle_New.calls _ _ _ _ W (NI h))
 have g0:tP h<262144:=Nat.mod_lt _ (by decide)
 have e1:IntKind.i64.wrap ((tP h:Int)+1)=((tP h+1:Nat):Int):=cD _ _ (by omega) (by omega)
 have e2:((tP h+1:Nat):Int).tmod 262144=(((tP h+1) % 262144:Nat):Int):=rfl
 clear hh g0
 go_enter Tryz.func182,Tryz.ntmps182
 go_wp2_with (first|(go_at_call 183;refine (P1.out _).mono ?_;rintro e w1 ⟨rfl,rfl⟩)|(go_at_call 216;refine (P2.out _).mono ?_;rintro e w1 ⟨rfl,rfl⟩)|(go_at_call 169;refine (P3.out _).mono ?_;rintro e w1 ⟨rfl,⟨nq,rfl⟩⟩))
 go_ret
 exact ⟨rfl,⟨⟨_,rfl⟩⟩⟩
theorem mP (x:dA) (w:World):Calls Tryz.prog 123 #[.agg (EP x)] w fun e w'=>e= .returned (.bool (decide (16≤x.op∧x.op≤23)))∧Below w.heap.size w w':=by
 obtain ⟨op,d,s,t,u,a,k,z_⟩:=x
 show Calls Tryz.prog 123 #[.agg #[.int .i64 op,.int .i64 d,.int .i64 s,.int .i64 t,.int .i64 u,.int .i64 a,.int .u32 k,.int .i64 z_]] w _
 have HB:=aA.mk (aD (Below.refl w.heap.size w) (.cells #[.int .i64 op,.int .i64 d,.int .i64 s,.int .i64 t,.int .i64 u,.int .i64 a,.int .u32 k,.int .i64 z_] 214))
 by_cases h1:16≤op
 ·by_cases h2:op≤23
  ·have e:decide (16≤op∧op≤23)=true:=decide_eq_true ⟨h1,h2⟩
   rw [e]
   have d1:=decide_eq_true h1
   have d2:=decide_eq_true h2
   clear e h1 h2
   go_enter Tryz.func123,Tryz.ntmps123
   go_wp2
   go_ret
   exact ⟨rfl,HB.out⟩
  ·have e:decide (16≤op∧op≤23)=false:=decide_eq_false (fun h=>h2 h.2)
   rw [e]
   have d1:=decide_eq_true h1
   have d2:=decide_eq_false h2
   clear e h1 h2
   go_enter Tryz.func123,Tryz.ntmps123
   go_wp2
   go_ret
   exact ⟨rfl,HB.out⟩
 ·have e:decide (16≤op∧op≤23)=false:=decide_eq_false (fun h=>h1 h.1)
  rw [e]
  have d1:=decide_eq_false h1
  clear e h1
  go_enter Tryz.func123,Tryz.ntmps123
  go_wp2
  go_ret
  exact ⟨rfl,HB.out⟩
end Go.Proofs.YtjopodnlffaogaaGreatDoor.Tp
end
section
namespace Go.Proofs.YtjopodnlffaogaaGreatDoor.Tp
open Go.RowKit Go.Proofs.YtjopodnlffaogaaGreatDoorW.PrintWords Go.Proofs.YtjopodnlffaogaaGreatDoorW.PrintLast Go.Proofs.YtjopodnlffaogaaGreatDoorW.PrintMore
attribute [local go_sem] aU aQ aY aX aI aJ aT aN
open Go.MapKept
theorem sG:Tryz.prog.underlying 229=some (.map 22 3):=by kernel_rfl
theorem und22:Tryz.prog.underlying 22=some (.int .u32):=by kernel_rfl
theorem YK:Tryz.prog.underlying 3=some (.int .i64):=by kernel_rfl
theorem UG (w:World):(zeroValue 3).run Tryz.prog w= .ok (.int .i64 0) w:=by kernel_rfl
theorem AY:Go.Maps.Keyed Tryz.prog 22:=Go.Maps.int_keyed und22
theorem BH {h:Int} (h0:0≤h) (h1:h<4294967296):keyOf Tryz.prog 22 (.int .u32 h)=some (.int .u32 h):=Go.Maps.keyOf_int_mk und22 (WalkArith.wf_u32 ⟨h0,by omega⟩)
def iQ (W:World) (mb n:Nat) (f:Int→Int):Prop:=∃ D:DataW Unit,W.ownsMap Tryz.prog 22 (plainElem Tryz.prog 3) mb n D∧∀ k,D.atKey (.int .u32 k) (.lit (.int .i64 0))= .lit (.int .i64 (f k))
def jT (f:Int→Int) (k v:Int):Int→Int:=fun x=>if x=k then v else f x
theorem iQ.made {W:World} {mb:Nat} (h:W.heap[mb]?=some (.map #[] 0)):iQ W mb 0 (fun _=>0):=
 ⟨.map [],⟨#[],0,h,⟨by simp,stamped_empty 0,by simp⟩,Nat.le_refl _,rfl⟩,fun k=>rfl⟩
theorem iQ.bI {W W':World} {mb n:Nat} {f:Int→Int} (h:iQ W mb n f) (hb:W'.heap[mb]?=W.heap[mb]?):iQ W' mb n f:=by
 obtain ⟨D,⟨es,clock,h0,h1,h2,h3⟩,hf⟩:=h
 exact ⟨D,⟨es,clock,hb.trans h0,h1,h2,h3⟩,hf⟩
theorem iQ.lt {W:World} {mb n:Nat} {f:Int→Int} (h:iQ W mb n f):mb<W.heap.size:=by
 obtain ⟨D,⟨es,clock,h0,_⟩,hf⟩:=h
 exact aZ h0
theorem iQ.put {W':World} {mb n:Nat} {f:Int→Int} {D:DataW Unit} (hD:Go.Maps.IsMap D) (hf:∀ k,D.atKey (.int .u32 k) (.lit (.int .i64 0))= .lit (.int .i64 (f k))) {k v:Int} (hk:Go.WideAt.IsKeyLit (.int .u32 k)) (ho:W'.ownsMap Tryz.prog 22 (plainElem Tryz.prog 3) mb n (D.put (.int .u32 k) (.lit (.int .i64 v)))):iQ W' mb n (jT f k v):=by
 refine ⟨_,ho,fun x=>?_⟩
 unfold jT
 by_cases hx:x=k
 ·subst hx
  rw [if_pos rfl]
  exact Go.Maps.atKey_put_same hD hk _ _
 ·rw [if_neg hx,Go.Maps.atKey_put_other (fun e=>hx (by injection e))]
  exact hf x
theorem iQ.del {W':World} {mb n:Nat} {f:Int→Int} {D:DataW Unit} (hf:∀ k,D.atKey (.int .u32 k) (.lit (.int .i64 0))= .lit (.int .i64 (f k))) {k:Int} (ho:W'.ownsMap Tryz.prog 22 (plainElem Tryz.prog 3) mb n (D.del (.int .u32 k))):iQ W' mb n (jT f k 0):=by
 refine ⟨_,ho,fun x=>?_⟩
 unfold jT
 by_cases hx:x=k
 ·subst hx
  rw [if_pos rfl]
  exact Go.Maps.atKey_del_same _
 ·rw [if_neg hx,Go.Maps.atKey_del_other (fun e=>hx (by injection e))]
  exact hf x
theorem Mod.wJ {W W':World} {b:Nat} (h:W.grownBy W' (some b)):Mod (fun q=>q=b) W W':=⟨h.os,h.tape,h.output,h.size,fun i hi hn=>h.block i hi (fun e=>hn (by injection e))⟩
def D9 (rs:List Rg) (rest:List Value):Array Value:=(rs.map (fun r=>Value.pointer (some ⟨r.b,0,none⟩))++rest).toArray
theorem rH (rs:List Rg) (rest:List Value) (t:Nat) (ht:t<rs.length):(D9 rs rest)[t]?=some (.pointer (some ⟨rs[t].b,0,none⟩)):=by
 unfold D9
 rw [List.getElem?_toArray,List.getElem?_append_left (by simpa using ht),List.getElem?_map,List.getElem?_eq_getElem ht]
 rfl
theorem UP (rs:List Rg) (rest:List Value) (t:Nat) (ht:t<rs.length) (r:Rg) (hr:r.b=rs[t].b):D9 (rs.set t r) rest=D9 rs rest:=by
 unfold D9
 have:(rs.set t r).map (fun r=>Value.pointer (some ⟨r.b,0,none⟩))=rs.map (fun r=>Value.pointer (some ⟨r.b,0,none⟩)):=by
  rw [List.map_set,hr]
  exact List.ext_getElem? fun i=>by
   rw [List.getElem?_set]
   split
   ·rename_i h
    subst h
    simp [List.getElem?_eq_getElem ht,ht]
   ·rfl
 rw [this]
structure iG (W:World) (bp gr cap mb m n:Nat) (rest:List Value) (rs:List Rg) (f:Int→Int):Prop where
 bI:W.heap[bp]?=some (.cells #[.int .i64 (m:Int),.slice (some ⟨gr,0,none⟩) rs.length cap,.map (some mb)] 231 (0,0))
 row:W.heap[gr]?=some (.cells (D9 rs rest) 227 (0,0))
 rings:fZ W m rs
 out:iQ W mb n f
 good:∀ r∈rs,r.n≤m∧(0<m→r.first<m)
 few:rs.length≤64
 small:m≤8
section
variable {W W':World} {bp gr cap mb m n:Nat} {rest:List Value} {rs:List Rg} {f:Int→Int}
theorem iQ.fU {W:World} {mb n g t:Nat} {c:Array Value} {f:Int→Int} (h:iQ W mb n f) (hg:W.heap[g]?=some (.cells c t (0,0))):mb≠g:=fun e=>by
 obtain ⟨D,⟨es,clock,h0,_⟩,hf⟩:=h
 rw [e,hg] at h0
 cases h0
theorem iG.below (h:iG W bp gr cap mb m n rest rs f) (hb:Below W.heap.size W W'):iG W' bp gr cap mb m n rest rs f:=
 ⟨aE h.bI hb,aE h.row hb,h.rings.below hb,h.out.bI (hb.block _ h.out.lt),h.good,h.few,h.small⟩
theorem iG.ring (h:iG W bp gr cap mb m n rest rs f) (t:Nat) (ht:t<rs.length) (r:Rg) (hm:Mod (fun k=>k=rs[t].b∨k=rs[t].g) W W') (eb:r.b=rs[t].b) (eg:r.g=rs[t].g) (hr:iM W' m r) (gd:r.n≤m∧(0<m→r.first<m)):iG W' bp gr cap mb m n rest (rs.set t r) f:=by
 have hat:=h.rings.at_ _ (List.getElem_mem ht)
 have fU:∀ {g ty:Nat} {c:Array Value},W.heap[g]?=some (.cells c ty (0,0))→ty≠284→ty≠22→W'.heap[g]?=some (.cells c ty (0,0)):=fun {g ty c} hg n1 n2=>hm.bI hg (fun hs=>by
  rcases hs with e|e
  ·exact aK hg hat.bI n1 e
  ·exact aK hg hat.row n2 e)
 have hb:(rs.set t r).map Rg.b=rs.map Rg.b:=by
  rw [List.map_set,eb]
  exact List.ext_getElem? fun i=>by
   rw [List.getElem?_set]
   split
   ·rename_i h;subst h;simp [ht]
   ·rfl
 have hg:(rs.set t r).map Rg.g=rs.map Rg.g:=by
  rw [List.map_set,eg]
  exact List.ext_getElem? fun i=>by
   rw [List.getElem?_set]
   split
   ·rename_i h;subst h;simp [ht]
   ·rfl
 refine ⟨by rw [List.length_set];exact fU h.bI (by decide) (by decide),by rw [UP rs rest t ht r eb];exact fU h.row (by decide) (by decide),⟨by rw [hb];exact h.rings.nb,by rw [hg];exact h.rings.ng,fun q hq=>?_⟩,h.out.bI (hm.block _ h.out.lt (fun hs=>by rcases hs with e|e;exact h.out.fU hat.bI e;exact h.out.fU hat.row e)),fun q hq=>?_,by rw [List.length_set];exact h.few,h.small⟩
 ·obtain ⟨i,hi,rfl⟩:=List.mem_iff_getElem.1 hq
  rw [List.length_set] at hi
  rw [List.getElem_set]
  split
  ·exact hr
  ·rename_i hne
   have hq:=h.rings.at_ _ (List.getElem_mem hi)
   refine ⟨hm.bI hq.bI (fun hs=>?_),hm.bI hq.row (fun hs=>?_),hq.len⟩
   ·rcases hs with e|e
    ·exact hne ((List.getElem_inj (xs:=rs.map Rg.b) (h₀:=by simpa using ht) (h₁:=by simpa using hi) h.rings.nb).1 (by simpa using e.symm))
    ·exact aK hq.bI hat.row (by decide) e
   ·rcases hs with e|e
    ·exact aK hq.row hat.bI (by decide) e
    ·exact hne ((List.getElem_inj (xs:=rs.map Rg.g) (h₀:=by simpa using ht) (h₁:=by simpa using hi) h.rings.ng).1 (by simpa using e.symm))
 ·rcases List.mem_or_eq_of_mem_set hq with hq|rfl
  ·exact h.good q hq
  ·exact gd
theorem iG.outs {n':Nat} {f':Int→Int} (h:iG W bp gr cap mb m n rest rs f) (hm:Mod (fun k=>k=mb) W W') (ho:iQ W' mb n' f'):iG W' bp gr cap mb m n' rest rs f':=by
 have fU:∀ {g ty:Nat} {c:Array Value},W.heap[g]?=some (.cells c ty (0,0))→W'.heap[g]?=some (.cells c ty (0,0)):=fun {g ty c} hg=>hm.bI hg (fun e=>h.out.fU hg e.symm)
 exact ⟨fU h.bI,fU h.row,h.rings.step (fun k c t hk _=>fU hk),ho,h.good,h.few,h.small⟩
end
theorem nH (bp gr cap mb m n:Nat) (rest:List Value) (rs:List Rg) (f:Int→Int) (t:Nat) (w:World) (h:iG w bp gr cap mb m n rest rs f) (ht:t<rs.length):
  Calls Tryz.prog 131 #[.pointer (some ⟨bp,0,none⟩),.int .i64 (t:Int)] w fun e w'=>e= .returned (.bool true)∧w=w':=by
 have H:=aA.mk h
 have b1:=(aC h.bI 1).trans rfl
 have b2:=(aC h.bI 2).trans rfl
 have r0:=(aC h.row t).trans (rH rs rest t ht)
 have R:=aA.mk (h.rings.at_ _ (List.getElem_mem ht))
 have G:=aA.mk (h.good _ (List.getElem_mem ht))
 have M8:=aA.mk h.small
 have i0:(0:Int)≤(t:Int):=by omega
 have i1:(t:Int)<(rs.length:Int):=by omega
 have i2:(rs.length:Int)≤64:=by have:=h.few;omega
 clear h R
 go_enter Tryz.func131,Tryz.ntmps131
 go_wp2
 go_ret
 exact ⟨rfl,rfl⟩
theorem yJ (bp gr cap mb m n:Nat) (rest:List Value) (rs:List Rg) (f:Int→Int) (t:Nat) (w:World) (h:iG w bp gr cap mb m n rest rs f) (ht:t<rs.length) (h0:rs[t].n=0):
  Calls Tryz.prog 124 #[.pointer (some ⟨bp,0,none⟩),.int .i64 (t:Int)] w fun e w'=>e= .returned (.tuple #[.int .u32 0,.int .i64 0])∧w=w':=by
 have H:=aA.mk h
 have b1:=(aC h.bI 1).trans rfl
 have b2:=(aC h.bI 2).trans rfl
 have r0:=(aC h.row t).trans (rH rs rest t ht)
 have R:=aA.mk (h.rings.at_ _ (List.getElem_mem ht))
 have G:=aA.mk (h.good _ (List.getElem_mem ht))
 have M8:=aA.mk h.small
 have i0:(0:Int)≤(t:Int):=by omega
 have i1:(t:Int)<(rs.length:Int):=by omega
 have i2:(rs.length:Int)≤64:=by have:=h.few;omega
 have P1:=aA.mk (fun W (hW:iG W bp gr cap mb m n rest rs f)=>nH bp gr cap mb m n rest rs f t W hW ht)
 have P2:=aA.mk (fun W (hW:iM W m rs[t])=>I8 rs[t].b rs[t].g m rs[t].first W (by have:=hW.bI;rw [h0] at this;exact this))
 clear h h0
 go_enter Tryz.func124,Tryz.ntmps124
 go_wp2_with (first|(go_at_call 131;refine (P1.out _ H.out).mono ?_;rintro e w1 ⟨rfl,rfl⟩)|(go_at_call 181;refine (P2.out _ R.out).mono ?_;rintro e w1 ⟨rfl,rfl⟩))
 go_ret2
 exact ⟨rfl,rfl⟩
theorem wO (bp gr cap mb m n:Nat) (rest:List Value) (rs:List Rg) (f:Int→Int) (t:Nat) (w:World) (h:iG w bp gr cap mb m n rest rs f) (ht:t<rs.length) (h0:0<rs[t].n) (hv:0≤rs[t].xs.getD rs[t].first 0∧rs[t].xs.getD rs[t].first 0<4294967296) (hn:n<maxLen):
  Calls Tryz.prog 124 #[.pointer (some ⟨bp,0,none⟩),.int .i64 (t:Int)] w fun e w'=>e= .returned (.tuple #[.int .u32 (rs[t].xs.getD rs[t].first 0),.int .i64 0])∧Mod (fun k=>k=rs[t].b∨k=rs[t].g∨k=mb) w w'∧iG w' bp gr cap mb m (n+1) rest (rs.set t ⟨rs[t].b,rs[t].g,(rs[t].first+1) % m,rs[t].n - 1,rs[t].xs.set rs[t].first 0⟩) (jT f (rs[t].xs.getD rs[t].first 0) ((t:Int)+1)):=by
 have H:=aA.mk h
 have b1:=(aC h.bI 1).trans rfl
 have b2:=(aC h.bI 2).trans rfl
 have r0:=(aC h.row t).trans (rH rs rest t ht)
 have R:=aA.mk (h.rings.at_ _ (List.getElem_mem ht))
 have G:=aA.mk (h.good _ (List.getElem_mem ht))
 have M8:=aA.mk h.small
 have i0:(0:Int)≤(t:Int):=by omega
 have i1:(t:Int)<(rs.length:Int):=by omega
 have i2:(rs.length:Int)≤64:=by have:=h.few;omega
 have m0:0<m:=by have:=G.out.1;omega
 have P1:=aA.mk (fun W (hW:iG W bp gr cap mb m n rest rs f)=>nH bp gr cap mb m n rest rs f t W hW ht)
 have P2:=aA.mk (fun W (hW:iM W m rs[t])=>FY rs[t].b rs[t].g m rs[t].first rs[t].n rs[t].xs W hW.bI hW.row hW.len G.out.1 h0 (by have:=M8.out;omega) (G.out.2 m0))
 have Q:=aA.mk (fun W (hm:Mod (fun k=>k=rs[t].b∨k=rs[t].g) w W) (e1:W.heap[rs[t].b]?=some (.cells (fT rs[t].g m ((rs[t].first+1) % m) (rs[t].n - 1)) 284 (0,0))) (e2:W.heap[rs[t].g]?=some (.cells (cU (rs[t].xs.set rs[t].first 0)) 22 (0,0)))=>H.out.ring t ht ⟨rs[t].b,rs[t].g,(rs[t].first+1) % m,rs[t].n - 1,rs[t].xs.set rs[t].first 0⟩ hm rfl rfl ⟨e1,e2,by simpa using R.out.len⟩ ⟨by have:=G.out.1;show rs[t].n - 1≤m;omega,fun _=>Nat.mod_lt _ m0⟩)
 have HV:=aA.mk hv
 have hs:IntKind.i64.wrap ((t:Int)+1)=(t:Int)+1:=IntWalk.i64_in _ (by omega)
 have HS:=aA.mk (show (-9223372036854775808:Int)≤(t:Int)+1∧(t:Int)+1≤9223372036854775807 by omega)
 have HN:=aA.mk hn
 have HW:=aA.mk (plainElem_int (H:=Unit) YK (WalkArith.wf_i64 HS.out))
 generalize hrs:rs.set t ⟨rs[t].b,rs[t].g,(rs[t].first+1) % m,rs[t].n - 1,rs[t].xs.set rs[t].first 0⟩=rs' at Q ⊢
 generalize rs[t].xs.getD rs[t].first 0=v at P2 HV ⊢
 clear h h0 hv hrs b2 hn
 go_enter Tryz.func124,Tryz.ntmps124
 go_wp2_with (first|(go_at_call 131;refine (P1.out _ H.out).mono ?_;rintro e w1 ⟨rfl,rfl⟩)|(go_at_call 181;refine (P2.out _ R.out).mono ?_;rintro e w1 ⟨rfl,hm,e1,e2⟩;have HP:=aA.mk (Q.out _ hm e1 e2);have HM:=aA.mk hm;have c2:=(aC HP.out.bI 2).trans rfl;clear hm e1 e2 b1 r0)|(at_mapUpdate;obtain ⟨D,ho,hD⟩:=HP.out.out;have HD:=aA.mk hD;clear hD;refine wpList_mapUpdate_own _ rfl _ _ _ 229 rfl 22 3 AY sG _ mb n D rfl ho HN.out _ _ _ rfl rfl (BH HV.out.1 HV.out.2) _ [] HW.out ?_;intro w2 ho2 hg2;have HO:=aA.mk (iQ.put ho.isMap HD.out trivial ho2);have HG:=aA.mk (Mod.wJ hg2);clear ho ho2 hg2))
 go_ret2
 exact ⟨rfl,(HM.out.mono (fun i _ hs=>hs.elim .inl (fun e=> .inr (.inl e)))).trans HG.out (fun i _ e=> .inr (.inr e)),HP.out.outs HG.out HO.out⟩
theorem zG (bp:Nat) (w:World):
  Calls Tryz.prog 125 #[.pointer (some ⟨bp,0,none⟩),.int .u32 0] w fun e w'=>e= .returned (.int .i64 0)∧w=w':=by
 go_enter Tryz.func125,Tryz.ntmps125
 go_wp2
 go_ret
 exact ⟨rfl,rfl⟩
theorem yZ (bp gr cap mb m n:Nat) (rest:List Value) (rs:List Rg) (f:Int→Int) (h:Nat) (w:World) (hp:iG w bp gr cap mb m n rest rs f) (h0:0<h) (h1:h<4294967296) (hf:f h=0):
  Calls Tryz.prog 125 #[.pointer (some ⟨bp,0,none⟩),.int .u32 (h:Int)] w fun e w'=>e= .returned (.int .i64 10)∧w=w':=by
 have H:=aA.mk hp
 have b2:=(aC hp.bI 2).trans rfl
 have e0:((h:Int)==0)=false:=beq_eq_false_iff_ne.mpr (by omega)
 have H0:=aA.mk (⟨by omega,by omega⟩:0≤(h:Int)∧(h:Int)<4294967296)
 have e1:(f h==0)=true:=beq_iff_eq.mpr hf
 clear hp h0 h1
 go_enter Tryz.func125,Tryz.ntmps125
 go_wp2_with (at_lookup;obtain ⟨D,ho,hD⟩:=H.out.out;refine wpList_lookup_own_int _ rfl _ _ 229 rfl 22 3 .i64 AY sG YK (UG _) mb n D rfl ho _ _ rfl (BH H0.out.1 H0.out.2) ?_;intro c hat hwc;have e:=hD (h:Int);rw [hat] at e;injection e with e;injection e with _ e;subst e;clear ho hD hat hwc)
 go_ret
 exact ⟨rfl,rfl⟩
theorem wL (bp gr cap mb m n:Nat) (rest:List Value) (rs:List Rg) (f:Int→Int) (h:Nat) (w:World) (hp:iG w bp gr cap mb m n rest rs f) (h0:0<h) (h1:h<4294967296) (t:Nat) (ht:t<rs.length) (hf:f h=(t:Int)+1) (hr:rs[t].n<m):
  Calls Tryz.prog 125 #[.pointer (some ⟨bp,0,none⟩),.int .u32 (h:Int)] w fun e w'=>e= .returned (.int .i64 0)∧Mod (fun k=>k=rs[t].b∨k=rs[t].g∨k=mb) w w'∧iG w' bp gr cap mb m n rest (rs.set t ⟨rs[t].b,rs[t].g,rs[t].first,rs[t].n+1,rs[t].xs.set ((rs[t].first+rs[t].n) % m) (eR h:Int)⟩) (jT f h 0):=by
 have H:=aA.mk hp
 have b2:=(aC hp.bI 2).trans rfl
 have e0:((h:Int)==0)=false:=beq_eq_false_iff_ne.mpr (by omega)
 have H0:=aA.mk (⟨by omega,by omega⟩:0≤(h:Int)∧(h:Int)<4294967296)
 have e1:(f h==0)=false:=beq_eq_false_iff_ne.mpr (by omega)
 have H1:=aA.mk h1
 have hs:wrap64 (t:Int)=(t:Int):=by have:=hp.few;unfold wrap64;omega
 have i0:(0:Int)≤(t:Int):=by omega
 have i1:(t:Int)<(rs.length:Int):=by omega
 have i2:(rs.length:Int)≤64:=by have:=hp.few;omega
 have HT:=aA.mk ht
 have HF:=aA.mk hf
 have G:=aA.mk (hp.good _ (List.getElem_mem ht))
 have m0:0<m:=by omega
 have M8:=aA.mk hp.small
 have P2:=aA.mk (fun W (hW:iM W m rs[t])=>zW rs[t].b rs[t].g m rs[t].first rs[t].n rs[t].xs (eR h:Int) W hW.bI hW.row hW.len hr (by have:=M8.out;omega) (G.out.2 m0))
 have P1:=aA.mk (fun W=>tA h h1 W)
 have Q:=aA.mk (fun W W' (hP:iG W bp gr cap mb m n rest rs (jT f h 0)) (hm:Mod (fun k=>k=rs[t].b∨k=rs[t].g) W W') (e1:W'.heap[rs[t].b]?=some (.cells (fT rs[t].g m rs[t].first (rs[t].n+1)) 284 (0,0))) (e2:W'.heap[rs[t].g]?=some (.cells (cU (rs[t].xs.set ((rs[t].first+rs[t].n) % m) (eR h:Int))) 22 (0,0)))=>hP.ring t ht ⟨rs[t].b,rs[t].g,rs[t].first,rs[t].n+1,rs[t].xs.set ((rs[t].first+rs[t].n) % m) (eR h:Int)⟩ hm rfl rfl ⟨e1,e2,by simpa using (hP.rings.at_ _ (List.getElem_mem ht)).len⟩ ⟨hr,fun _=>G.out.2 m0⟩)
 generalize hrs:rs.set t ⟨rs[t].b,rs[t].g,rs[t].first,rs[t].n+1,rs[t].xs.set ((rs[t].first+rs[t].n) % m) (eR h:Int)⟩=rs' at Q ⊢
 generalize eR h=v at P1 P2 Q
 clear hp h0 h1 hrs hf hr G m0 M8
 go_enter Tryz.func125,Tryz.ntmps125
 go_wp2_with (first|(at_lookup;obtain ⟨D,ho,hD⟩:=H.out.out;refine wpList_lookup_own_int _ rfl _ _ 229 rfl 22 3 .i64 AY sG YK (UG _) mb n D rfl ho _ _ rfl (BH H0.out.1 H0.out.2) ?_;intro c hat hwc;have e:=hD (h:Int);rw [hat] at e;injection e with e;injection e with _ e;subst e;clear ho hD hat hwc)|(at_delete;obtain ⟨D,ho,hD⟩:=H.out.out;have HD:=aA.mk hD;refine wpList_delete_own _ rfl _ _ 229 22 rfl 3 AY sG _ mb n D rfl ho _ _ rfl (BH H0.out.1 H0.out.2) ?_;intro w2 ho2 ht2;have HO:=aA.mk (iQ.del HD.out ho2);have HG:=aA.mk (Mod.wJ ht2.grown);clear ho ho2 ht2 hD))
 have HP:=aA.mk (H.out.outs HG.out HO.out)
 have HM:=aA.mk (HG.out.mono (T:=fun k=>k=rs[t].b∨k=rs[t].g∨k=mb) (fun i _ e=> .inr (.inr e)))
 rw [HF.out] at*
 clear HG HO H b2

 have n0:=aA.mk HP.out.bI
 have n1:=aA.mk HP.out.row
 refine dB (n:=11) (S:=fun w'=>w'.heap[bp]?=some (.cells #[.int .i64 (m:Int),.slice (some ⟨gr,0,none⟩) rs.length cap,.map (some mb)] 231 (0,0))∧w'.heap[gr]?=some (.cells (D9 rs rest) 227 (0,0))) (ds:= [10]) #[false,false,false,false,false,false,false,false,false,false,false] (by kernel_rfl) rfl rfl ⟨n0.out,n1.out⟩ (fun hHeld=>?_)
 replace HP:=aA.mk (HP.out.below (bG (Below.refl _ _)))
 replace HM:=aA.mk (HM.out.drew)
 replace n0:=aA.mk (drew_ n0.out)
 replace n1:=aA.mk (drew_ n1.out)
 generalize w2.drew=w3 at HP HM n0 n1 hHeld ⊢
 refine pur_ 0 21 ?_
 refine pur_ 1 22 ?_
 refine pur_ 2 23 ?_
 refine pur_ 4 25 ?_
 refine pur_ 5 26 ?_
 refine pur_ 8 29 ?_
 refine tak_ 3 24 (.slice (some ⟨gr,0,none⟩) rs.length cap) ?_ hHeld ?_
 ·intro w' hS
  have c1:=(aC hS.1 1).trans rfl
  clear hHeld hS
  go_simp
 refine pur_ 6 27 ?_
 refine tak_ 7 28 (.pointer (some ⟨rs[t].b,0,none⟩)) ?_ hHeld ?_
 ·intro w' hS
  have r0:=(aC hS.2 t).trans (rH rs rest t HT.out)
  clear hHeld hS
  go_simp
 refine on_ 9 30 (fun K hK=>?_)
 refine goe_ Tryz.func182 #[.int .u32 (h:Int)] ?_
 refine (P1.out _).mono ?_
 rintro e w9 ⟨rfl,hd⟩
 have hb:=hd.below
 clear hd
 refine ⟨_,rfl,?_⟩
 replace HP:=aA.mk (HP.out.below hb)
 replace HM:=aA.mk (HM.out.step hb)
 replace n0:=aA.mk (aE n0.out hb)
 replace n1:=aA.mk (aE n1.out hb)
 clear hb hHeld
 refine hK.out _ _ ⟨n0.out,n1.out⟩ (fun hHeld=>?_)
 clear hK K
 refine nor_ ?_
 refine fX (i:=10) (N:=some 31) #[true,true,true,true,true,true,true,true,true,true,true] rfl rfl (by kernel_rfl) (by decide) (fun K hK=>?_)
 refine goe_ Tryz.func170 #[.pointer (some ⟨rs[t].b,0,none⟩),.int .u32 (v:Int)] ?_
 refine (P2.out _ (HP.out.rings.at_ _ (List.getElem_mem HT.out))).mono ?_
 rintro e w10 ⟨rfl,hm,q1,q2⟩
 have HP2:=aA.mk (Q.out _ _ HP.out hm q1 q2)
 have HM2:=aA.mk (HM.out.trans hm (fun i _ hs=>hs.elim .inl (fun e=> .inr (.inl e))))
 clear hm q1 q2 HP HM n0 n1 hHeld
 refine ⟨_,rfl,?_⟩
 refine hK.out _ _ ?_
 clear hK K
 refine nor_ ?_
 refine eO (by kernel_rfl) ?_
 go_wp2
 go_ret
 exact ⟨rfl,HM2.out,HP2.out⟩
theorem U4 (b g m first:Nat) (v:Int) (w:World) (hb:w.heap[b]?=some (.cells (fT g m first m) 284 (0,0))) (hm:m≤4096):
  Calls Tryz.prog 170 #[.pointer (some ⟨b,0,none⟩),.int .u32 v] w fun e w'=>e= .returned (.bool false)∧bS w w':=by
 have P:=xJ b g m first m w hb (Nat.le_refl _) hm
 rw [Nat.sub_self] at P
 clear hb
 go_enter Tryz.func170,Tryz.ntmps170
 go_wp2_with (go_at_call 132;refine P.mono ?_;rintro e w1 ⟨rfl,hd⟩)
 go_ret
 exact ⟨rfl,hd⟩
theorem yM (bp gr cap mb m n:Nat) (rest:List Value) (rs:List Rg) (f:Int→Int) (h:Nat) (w:World) (hp:iG w bp gr cap mb m n rest rs f) (h0:0<h) (h1:h<4294967296) (t:Nat) (ht:t<rs.length) (hf:f h=(t:Int)+1) (hr:rs[t].n=m):
  Calls Tryz.prog 125 #[.pointer (some ⟨bp,0,none⟩),.int .u32 (h:Int)] w fun e w'=>e= .returned (.int .i64 0)∧Mod (fun k=>k=rs[t].b∨k=rs[t].g∨k=mb) w w'∧iG w' bp gr cap mb m n rest (rs) (jT f h 0):=by
 have H:=aA.mk hp
 have b2:=(aC hp.bI 2).trans rfl
 have e0:((h:Int)==0)=false:=beq_eq_false_iff_ne.mpr (by omega)
 have H0:=aA.mk (⟨by omega,by omega⟩:0≤(h:Int)∧(h:Int)<4294967296)
 have e1:(f h==0)=false:=beq_eq_false_iff_ne.mpr (by omega)
 have H1:=aA.mk h1
 have hs:wrap64 (t:Int)=(t:Int):=by have:=hp.few;unfold wrap64;omega
 have i0:(0:Int)≤(t:Int):=by omega
 have i1:(t:Int)<(rs.length:Int):=by omega
 have i2:(rs.length:Int)≤64:=by have:=hp.few;omega
 have HT:=aA.mk ht
 have HF:=aA.mk hf
 have G:=aA.mk (hp.good _ (List.getElem_mem ht))
 have M8:=aA.mk hp.small
 have P2:=aA.mk (fun W (hW:iM W m rs[t])=>U4 rs[t].b rs[t].g m rs[t].first (eR h:Int) W (by have:=hW.bI;rw [hr] at this;exact this) (by have:=M8.out;omega))
 have P1:=aA.mk (fun W=>tA h h1 W)
 generalize eR h=v at P1 P2
 clear hp h0 h1 hf hr G M8
 go_enter Tryz.func125,Tryz.ntmps125
 go_wp2_with (first|(at_lookup;obtain ⟨D,ho,hD⟩:=H.out.out;refine wpList_lookup_own_int _ rfl _ _ 229 rfl 22 3 .i64 AY sG YK (UG _) mb n D rfl ho _ _ rfl (BH H0.out.1 H0.out.2) ?_;intro c hat hwc;have e:=hD (h:Int);rw [hat] at e;injection e with e;injection e with _ e;subst e;clear ho hD hat hwc)|(at_delete;obtain ⟨D,ho,hD⟩:=H.out.out;have HD:=aA.mk hD;refine wpList_delete_own _ rfl _ _ 229 22 rfl 3 AY sG _ mb n D rfl ho _ _ rfl (BH H0.out.1 H0.out.2) ?_;intro w2 ho2 ht2;have HO:=aA.mk (iQ.del HD.out ho2);have HG:=aA.mk (Mod.wJ ht2.grown);clear ho ho2 ht2 hD))
 have HP:=aA.mk (H.out.outs HG.out HO.out)
 have HM:=aA.mk (HG.out.mono (T:=fun k=>k=rs[t].b∨k=rs[t].g∨k=mb) (fun i _ e=> .inr (.inr e)))
 rw [HF.out] at*
 clear HG HO H b2

 have n0:=aA.mk HP.out.bI
 have n1:=aA.mk HP.out.row
 refine dB (n:=11) (S:=fun w'=>w'.heap[bp]?=some (.cells #[.int .i64 (m:Int),.slice (some ⟨gr,0,none⟩) rs.length cap,.map (some mb)] 231 (0,0))∧w'.heap[gr]?=some (.cells (D9 rs rest) 227 (0,0))) (ds:= [10]) #[false,false,false,false,false,false,false,false,false,false,false] (by kernel_rfl) rfl rfl ⟨n0.out,n1.out⟩ (fun hHeld=>?_)
 replace HP:=aA.mk (HP.out.below (bG (Below.refl _ _)))
 replace HM:=aA.mk (HM.out.drew)
 replace n0:=aA.mk (drew_ n0.out)
 replace n1:=aA.mk (drew_ n1.out)
 generalize w2.drew=w3 at HP HM n0 n1 hHeld ⊢
 refine pur_ 0 21 ?_
 refine pur_ 1 22 ?_
 refine pur_ 2 23 ?_
 refine pur_ 4 25 ?_
 refine pur_ 5 26 ?_
 refine pur_ 8 29 ?_
 refine tak_ 3 24 (.slice (some ⟨gr,0,none⟩) rs.length cap) ?_ hHeld ?_
 ·intro w' hS
  have c1:=(aC hS.1 1).trans rfl
  clear hHeld hS
  go_simp
 refine pur_ 6 27 ?_
 refine tak_ 7 28 (.pointer (some ⟨rs[t].b,0,none⟩)) ?_ hHeld ?_
 ·intro w' hS
  have r0:=(aC hS.2 t).trans (rH rs rest t HT.out)
  clear hHeld hS
  go_simp
 refine on_ 9 30 (fun K hK=>?_)
 refine goe_ Tryz.func182 #[.int .u32 (h:Int)] ?_
 refine (P1.out _).mono ?_
 rintro e w9 ⟨rfl,hd⟩
 have hb:=hd.below
 clear hd
 refine ⟨_,rfl,?_⟩
 replace HP:=aA.mk (HP.out.below hb)
 replace HM:=aA.mk (HM.out.step hb)
 replace n0:=aA.mk (aE n0.out hb)
 replace n1:=aA.mk (aE n1.out hb)
 clear hb hHeld
 refine hK.out _ _ ⟨n0.out,n1.out⟩ (fun hHeld=>?_)
 clear hK K
 refine nor_ ?_
 refine fX (i:=10) (N:=some 31) #[true,true,true,true,true,true,true,true,true,true,true] rfl rfl (by kernel_rfl) (by decide) (fun K hK=>?_)
 refine goe_ Tryz.func170 #[.pointer (some ⟨rs[t].b,0,none⟩),.int .u32 (v:Int)] ?_
 refine (P2.out _ (HP.out.rings.at_ _ (List.getElem_mem HT.out))).mono ?_
 rintro e w10 ⟨rfl,hd⟩
 have HP2:=aA.mk (HP.out.below hd.below)
 have HM2:=aA.mk (HM.out.drawn hd)
 clear hd HP HM n0 n1 hHeld
 refine ⟨_,rfl,?_⟩
 refine hK.out _ _ ?_
 clear hK K
 refine nor_ ?_
 refine eO (by kernel_rfl) ?_
 go_wp2
 go_ret
 exact ⟨rfl,HM2.out,HP2.out⟩
end Go.Proofs.YtjopodnlffaogaaGreatDoor.Tp
end
section
namespace Go.Proofs.YtjopodnlffaogaaGreatDoor.Tp
open Go.RowKit Go.Proofs.YtjopodnlffaogaaGreatDoorW.PrintWords Go.Proofs.YtjopodnlffaogaaGreatDoorW.PrintLast Go.Proofs.YtjopodnlffaogaaGreatDoorW.PrintMore
attribute [local go_sem] aU aQ aY aX aI aJ aT aN
def upd (d i v r:Int):Int:=if d=i then v else r
theorem GR (d v:Int) (d0:0≤d) (d1:d<8) (r0 r1 r2 r3 r4 r5 r6 r7:Int) (x8:Value):
  #[Value.int .u32 r0,.int .u32 r1,.int .u32 r2,.int .u32 r3,.int .u32 r4,.int .u32 r5,.int .u32 r6,.int .u32 r7,x8].setIfInBounds d.toNat (.int .u32 v)=#[Value.int .u32 (upd d 0 v r0),Value.int .u32 (upd d 1 v r1),Value.int .u32 (upd d 2 v r2),Value.int .u32 (upd d 3 v r3),Value.int .u32 (upd d 4 v r4),Value.int .u32 (upd d 5 v r5),Value.int .u32 (upd d 6 v r6),Value.int .u32 (upd d 7 v r7),x8]:=by
 have h:d=0∨d=1∨d=2∨d=3∨d=4∨d=5∨d=6∨d=7:=by omega
 rcases h with rfl|rfl|rfl|rfl|rfl|rfl|rfl|rfl <;> simp [upd]
theorem K8 (op d s t u a k z:Int) (w:World) (h0:decide (16≤op)=true) (h1:decide (op≤23)=true):
  Calls Tryz.prog 123 #[.agg #[.int .i64 op,.int .i64 d,.int .i64 s,.int .i64 t,.int .i64 u,.int .i64 a,.int .u32 k,.int .i64 z]] w fun e w'=>e= .returned (.bool true)∧w'=w.alloc (.cells #[.int .i64 op,.int .i64 d,.int .i64 s,.int .i64 t,.int .i64 u,.int .i64 a,.int .u32 k,.int .i64 z] 214):=by
 go_enter Tryz.func123,Tryz.ntmps123
 go_wp2
 go_ret
 exact ⟨rfl,rfl⟩
theorem fG (op d s t u a k z:Int) (w:World) (h0:decide (16≤op)=false):
  Calls Tryz.prog 123 #[.agg #[.int .i64 op,.int .i64 d,.int .i64 s,.int .i64 t,.int .i64 u,.int .i64 a,.int .u32 k,.int .i64 z]] w fun e w'=>e= .returned (.bool false)∧w'=w.alloc (.cells #[.int .i64 op,.int .i64 d,.int .i64 s,.int .i64 t,.int .i64 u,.int .i64 a,.int .u32 k,.int .i64 z] 214):=by
 go_enter Tryz.func123,Tryz.ntmps123
 go_wp2
 go_ret
 exact ⟨rfl,rfl⟩
theorem one_1 (r0 r1 r2 r3 r4 r5 r6 r7 pc d s t u a k z self vs vt vd:Int) (w:World)
  (d0:0≤d) (d1:d<8) (s0:0≤s) (s1:s<8) (t0:0≤t) (t1:t<8) (p0: -9223372036854775808≤pc) (p1:pc≤1099511627776)
  (hd:∀ x8,#[Value.int .u32 r0,.int .u32 r1,.int .u32 r2,.int .u32 r3,.int .u32 r4,.int .u32 r5,.int .u32 r6,.int .u32 r7,x8][d.toNat]?=some (.int .u32 vd)) (hs:∀ x8,#[Value.int .u32 r0,.int .u32 r1,.int .u32 r2,.int .u32 r3,.int .u32 r4,.int .u32 r5,.int .u32 r6,.int .u32 r7,x8][s.toNat]?=some (.int .u32 vs)) (ht:∀ x8,#[Value.int .u32 r0,.int .u32 r1,.int .u32 r2,.int .u32 r3,.int .u32 r4,.int .u32 r5,.int .u32 r6,.int .u32 r7,x8][t.toNat]?=some (.int .u32 vt))
 :
  Calls Tryz.prog 221 #[.agg #[.int .u32 r0,.int .u32 r1,.int .u32 r2,.int .u32 r3,.int .u32 r4,.int .u32 r5,.int .u32 r6,.int .u32 r7,.int .i64 pc],.agg #[.int .i64 1,.int .i64 d,.int .i64 s,.int .i64 t,.int .i64 u,.int .i64 a,.int .u32 k,.int .i64 z],.int .i64 self] w fun e w'=>e= .returned (.agg #[.int .u32 (upd d 0 (k) r0),.int .u32 (upd d 1 (k) r1),.int .u32 (upd d 2 (k) r2),.int .u32 (upd d 3 (k) r3),.int .u32 (upd d 4 (k) r4),.int .u32 (upd d 5 (k) r5),.int .u32 (upd d 6 (k) r6),.int .u32 (upd d 7 (k) r7),.int .i64 (pc+1)])∧Below w.heap.size w w':=by
 have hsd:∀ (w:World) (n:Nat) (a:Addr) (v:Value),(w.drewN n).setCell a v=(w.setCell a v).drewN n:=fun _ _ _ _=>rfl
 have hset:∀ v x8,#[Value.int .u32 r0,.int .u32 r1,.int .u32 r2,.int .u32 r3,.int .u32 r4,.int .u32 r5,.int .u32 r6,.int .u32 r7,x8].setIfInBounds d.toNat (.int .u32 v)=#[Value.int .u32 (upd d 0 v r0),Value.int .u32 (upd d 1 v r1),Value.int .u32 (upd d 2 v r2),Value.int .u32 (upd d 3 v r3),Value.int .u32 (upd d 4 v r4),Value.int .u32 (upd d 5 v r5),Value.int .u32 (upd d 6 v r6),Value.int .u32 (upd d 7 v r7),x8]:=fun v x8=>GR d v d0 d1 _ _ _ _ _ _ _ _ x8
 go_enter Tryz.func221,Tryz.ntmps221
 go_wp2_with fail
 refine (fG 1 d s t u a k z _ rfl).mono ?_
 rintro e w' ⟨rfl,rfl⟩
 go_wp2
 go_quiet (fail)
 go_wp2
 exact bodyPost_ret (v:= .agg #[.int .u32 (upd d 0 (k) r0),.int .u32 (upd d 1 (k) r1),.int .u32 (upd d 2 (k) r2),.int .u32 (upd d 3 (k) r3),.int .u32 (upd d 4 (k) r4),.int .u32 (upd d 5 (k) r5),.int .u32 (upd d 6 (k) r6),.int .u32 (upd d 7 (k) r7),.int .i64 (pc+1)]) (by simp [results,Tryz.results221,go_sem]) rfl ⟨rfl,by repeat (first|exact Below.refl _ _|apply aD|apply aH)⟩
theorem one_2 (r0 r1 r2 r3 r4 r5 r6 r7 pc d s t u a k z self vs vt vd:Int) (w:World)
  (d0:0≤d) (d1:d<8) (s0:0≤s) (s1:s<8) (t0:0≤t) (t1:t<8) (p0: -9223372036854775808≤pc) (p1:pc≤1099511627776)
  (hd:∀ x8,#[Value.int .u32 r0,.int .u32 r1,.int .u32 r2,.int .u32 r3,.int .u32 r4,.int .u32 r5,.int .u32 r6,.int .u32 r7,x8][d.toNat]?=some (.int .u32 vd)) (hs:∀ x8,#[Value.int .u32 r0,.int .u32 r1,.int .u32 r2,.int .u32 r3,.int .u32 r4,.int .u32 r5,.int .u32 r6,.int .u32 r7,x8][s.toNat]?=some (.int .u32 vs)) (ht:∀ x8,#[Value.int .u32 r0,.int .u32 r1,.int .u32 r2,.int .u32 r3,.int .u32 r4,.int .u32 r5,.int .u32 r6,.int .u32 r7,x8][t.toNat]?=some (.int .u32 vt))
 :
  Calls Tryz.prog 221 #[.agg #[.int .u32 r0,.int .u32 r1,.int .u32 r2,.int .u32 r3,.int .u32 r4,.int .u32 r5,.int .u32 r6,.int .u32 r7,.int .i64 pc],.agg #[.int .i64 2,.int .i64 d,.int .i64 s,.int .i64 t,.int .i64 u,.int .i64 a,.int .u32 k,.int .i64 z],.int .i64 self] w fun e w'=>e= .returned (.agg #[.int .u32 (upd d 0 (vs) r0),.int .u32 (upd d 1 (vs) r1),.int .u32 (upd d 2 (vs) r2),.int .u32 (upd d 3 (vs) r3),.int .u32 (upd d 4 (vs) r4),.int .u32 (upd d 5 (vs) r5),.int .u32 (upd d 6 (vs) r6),.int .u32 (upd d 7 (vs) r7),.int .i64 (pc+1)])∧Below w.heap.size w w':=by
 have hsd:∀ (w:World) (n:Nat) (a:Addr) (v:Value),(w.drewN n).setCell a v=(w.setCell a v).drewN n:=fun _ _ _ _=>rfl
 have hset:∀ v x8,#[Value.int .u32 r0,.int .u32 r1,.int .u32 r2,.int .u32 r3,.int .u32 r4,.int .u32 r5,.int .u32 r6,.int .u32 r7,x8].setIfInBounds d.toNat (.int .u32 v)=#[Value.int .u32 (upd d 0 v r0),Value.int .u32 (upd d 1 v r1),Value.int .u32 (upd d 2 v r2),Value.int .u32 (upd d 3 v r3),Value.int .u32 (upd d 4 v r4),Value.int .u32 (upd d 5 v r5),Value.int .u32 (upd d 6 v r6),Value.int .u32 (upd d 7 v r7),x8]:=fun v x8=>GR d v d0 d1 _ _ _ _ _ _ _ _ x8
 go_enter Tryz.func221,Tryz.ntmps221
 go_wp2_with fail
 refine (fG 2 d s t u a k z _ rfl).mono ?_
 rintro e w' ⟨rfl,rfl⟩
 go_wp2
 go_quiet (fail)
 go_wp2
 exact bodyPost_ret (v:= .agg #[.int .u32 (upd d 0 (vs) r0),.int .u32 (upd d 1 (vs) r1),.int .u32 (upd d 2 (vs) r2),.int .u32 (upd d 3 (vs) r3),.int .u32 (upd d 4 (vs) r4),.int .u32 (upd d 5 (vs) r5),.int .u32 (upd d 6 (vs) r6),.int .u32 (upd d 7 (vs) r7),.int .i64 (pc+1)]) (by simp [results,Tryz.results221,go_sem]) rfl ⟨rfl,by repeat (first|exact Below.refl _ _|apply aD|apply aH)⟩
theorem one_3 (r0 r1 r2 r3 r4 r5 r6 r7 pc d s t u a k z self vs vt vd:Int) (w:World)
  (d0:0≤d) (d1:d<8) (s0:0≤s) (s1:s<8) (t0:0≤t) (t1:t<8) (p0: -9223372036854775808≤pc) (p1:pc≤1099511627776)
  (hd:∀ x8,#[Value.int .u32 r0,.int .u32 r1,.int .u32 r2,.int .u32 r3,.int .u32 r4,.int .u32 r5,.int .u32 r6,.int .u32 r7,x8][d.toNat]?=some (.int .u32 vd)) (hs:∀ x8,#[Value.int .u32 r0,.int .u32 r1,.int .u32 r2,.int .u32 r3,.int .u32 r4,.int .u32 r5,.int .u32 r6,.int .u32 r7,x8][s.toNat]?=some (.int .u32 vs)) (ht:∀ x8,#[Value.int .u32 r0,.int .u32 r1,.int .u32 r2,.int .u32 r3,.int .u32 r4,.int .u32 r5,.int .u32 r6,.int .u32 r7,x8][t.toNat]?=some (.int .u32 vt))
 :
  Calls Tryz.prog 221 #[.agg #[.int .u32 r0,.int .u32 r1,.int .u32 r2,.int .u32 r3,.int .u32 r4,.int .u32 r5,.int .u32 r6,.int .u32 r7,.int .i64 pc],.agg #[.int .i64 3,.int .i64 d,.int .i64 s,.int .i64 t,.int .i64 u,.int .i64 a,.int .u32 k,.int .i64 z],.int .i64 self] w fun e w'=>e= .returned (.agg #[.int .u32 (upd d 0 ((vs+k) % 4294967296) r0),.int .u32 (upd d 1 ((vs+k) % 4294967296) r1),.int .u32 (upd d 2 ((vs+k) % 4294967296) r2),.int .u32 (upd d 3 ((vs+k) % 4294967296) r3),.int .u32 (upd d 4 ((vs+k) % 4294967296) r4),.int .u32 (upd d 5 ((vs+k) % 4294967296) r5),.int .u32 (upd d 6 ((vs+k) % 4294967296) r6),.int .u32 (upd d 7 ((vs+k) % 4294967296) r7),.int .i64 (pc+1)])∧Below w.heap.size w w':=by
 have hsd:∀ (w:World) (n:Nat) (a:Addr) (v:Value),(w.drewN n).setCell a v=(w.setCell a v).drewN n:=fun _ _ _ _=>rfl
 have hset:∀ v x8,#[Value.int .u32 r0,.int .u32 r1,.int .u32 r2,.int .u32 r3,.int .u32 r4,.int .u32 r5,.int .u32 r6,.int .u32 r7,x8].setIfInBounds d.toNat (.int .u32 v)=#[Value.int .u32 (upd d 0 v r0),Value.int .u32 (upd d 1 v r1),Value.int .u32 (upd d 2 v r2),Value.int .u32 (upd d 3 v r3),Value.int .u32 (upd d 4 v r4),Value.int .u32 (upd d 5 v r5),Value.int .u32 (upd d 6 v r6),Value.int .u32 (upd d 7 v r7),x8]:=fun v x8=>GR d v d0 d1 _ _ _ _ _ _ _ _ x8
 go_enter Tryz.func221,Tryz.ntmps221
 go_wp2_with fail
 refine (fG 3 d s t u a k z _ rfl).mono ?_
 rintro e w' ⟨rfl,rfl⟩
 go_wp2
 go_quiet (fail)
 go_wp2
 exact bodyPost_ret (v:= .agg #[.int .u32 (upd d 0 ((vs+k) % 4294967296) r0),.int .u32 (upd d 1 ((vs+k) % 4294967296) r1),.int .u32 (upd d 2 ((vs+k) % 4294967296) r2),.int .u32 (upd d 3 ((vs+k) % 4294967296) r3),.int .u32 (upd d 4 ((vs+k) % 4294967296) r4),.int .u32 (upd d 5 ((vs+k) % 4294967296) r5),.int .u32 (upd d 6 ((vs+k) % 4294967296) r6),.int .u32 (upd d 7 ((vs+k) % 4294967296) r7),.int .i64 (pc+1)]) (by simp [results,Tryz.results221,go_sem]) rfl ⟨rfl,by repeat (first|exact Below.refl _ _|apply aD|apply aH)⟩
theorem one_4 (r0 r1 r2 r3 r4 r5 r6 r7 pc d s t u a k z self vs vt vd:Int) (w:World)
  (d0:0≤d) (d1:d<8) (s0:0≤s) (s1:s<8) (t0:0≤t) (t1:t<8) (p0: -9223372036854775808≤pc) (p1:pc≤1099511627776)
  (hd:∀ x8,#[Value.int .u32 r0,.int .u32 r1,.int .u32 r2,.int .u32 r3,.int .u32 r4,.int .u32 r5,.int .u32 r6,.int .u32 r7,x8][d.toNat]?=some (.int .u32 vd)) (hs:∀ x8,#[Value.int .u32 r0,.int .u32 r1,.int .u32 r2,.int .u32 r3,.int .u32 r4,.int .u32 r5,.int .u32 r6,.int .u32 r7,x8][s.toNat]?=some (.int .u32 vs)) (ht:∀ x8,#[Value.int .u32 r0,.int .u32 r1,.int .u32 r2,.int .u32 r3,.int .u32 r4,.int .u32 r5,.int .u32 r6,.int .u32 r7,x8][t.toNat]?=some (.int .u32 vt))
 :
  Calls Tryz.prog 221 #[.agg #[.int .u32 r0,.int .u32 r1,.int .u32 r2,.int .u32 r3,.int .u32 r4,.int .u32 r5,.int .u32 r6,.int .u32 r7,.int .i64 pc],.agg #[.int .i64 4,.int .i64 d,.int .i64 s,.int .i64 t,.int .i64 u,.int .i64 a,.int .u32 k,.int .i64 z],.int .i64 self] w fun e w'=>e= .returned (.agg #[.int .u32 (upd d 0 (Go.bits .and .u32 vs k) r0),.int .u32 (upd d 1 (Go.bits .and .u32 vs k) r1),.int .u32 (upd d 2 (Go.bits .and .u32 vs k) r2),.int .u32 (upd d 3 (Go.bits .and .u32 vs k) r3),.int .u32 (upd d 4 (Go.bits .and .u32 vs k) r4),.int .u32 (upd d 5 (Go.bits .and .u32 vs k) r5),.int .u32 (upd d 6 (Go.bits .and .u32 vs k) r6),.int .u32 (upd d 7 (Go.bits .and .u32 vs k) r7),.int .i64 (pc+1)])∧Below w.heap.size w w':=by
 have hsd:∀ (w:World) (n:Nat) (a:Addr) (v:Value),(w.drewN n).setCell a v=(w.setCell a v).drewN n:=fun _ _ _ _=>rfl
 have hset:∀ v x8,#[Value.int .u32 r0,.int .u32 r1,.int .u32 r2,.int .u32 r3,.int .u32 r4,.int .u32 r5,.int .u32 r6,.int .u32 r7,x8].setIfInBounds d.toNat (.int .u32 v)=#[Value.int .u32 (upd d 0 v r0),Value.int .u32 (upd d 1 v r1),Value.int .u32 (upd d 2 v r2),Value.int .u32 (upd d 3 v r3),Value.int .u32 (upd d 4 v r4),Value.int .u32 (upd d 5 v r5),Value.int .u32 (upd d 6 v r6),Value.int .u32 (upd d 7 v r7),x8]:=fun v x8=>GR d v d0 d1 _ _ _ _ _ _ _ _ x8
 go_enter Tryz.func221,Tryz.ntmps221
 go_wp2_with fail
 refine (fG 4 d s t u a k z _ rfl).mono ?_
 rintro e w' ⟨rfl,rfl⟩
 go_wp2
 go_quiet (fail)
 go_wp2
 exact bodyPost_ret (v:= .agg #[.int .u32 (upd d 0 (Go.bits .and .u32 vs k) r0),.int .u32 (upd d 1 (Go.bits .and .u32 vs k) r1),.int .u32 (upd d 2 (Go.bits .and .u32 vs k) r2),.int .u32 (upd d 3 (Go.bits .and .u32 vs k) r3),.int .u32 (upd d 4 (Go.bits .and .u32 vs k) r4),.int .u32 (upd d 5 (Go.bits .and .u32 vs k) r5),.int .u32 (upd d 6 (Go.bits .and .u32 vs k) r6),.int .u32 (upd d 7 (Go.bits .and .u32 vs k) r7),.int .i64 (pc+1)]) (by simp [results,Tryz.results221,go_sem]) rfl ⟨rfl,by repeat (first|exact Below.refl _ _|apply aD|apply aH)⟩
theorem one_5 (r0 r1 r2 r3 r4 r5 r6 r7 pc d s t u a k z self vs vt vd:Int) (w:World)
  (d0:0≤d) (d1:d<8) (s0:0≤s) (s1:s<8) (t0:0≤t) (t1:t<8) (p0: -9223372036854775808≤pc) (p1:pc≤1099511627776)
  (hd:∀ x8,#[Value.int .u32 r0,.int .u32 r1,.int .u32 r2,.int .u32 r3,.int .u32 r4,.int .u32 r5,.int .u32 r6,.int .u32 r7,x8][d.toNat]?=some (.int .u32 vd)) (hs:∀ x8,#[Value.int .u32 r0,.int .u32 r1,.int .u32 r2,.int .u32 r3,.int .u32 r4,.int .u32 r5,.int .u32 r6,.int .u32 r7,x8][s.toNat]?=some (.int .u32 vs)) (ht:∀ x8,#[Value.int .u32 r0,.int .u32 r1,.int .u32 r2,.int .u32 r3,.int .u32 r4,.int .u32 r5,.int .u32 r6,.int .u32 r7,x8][t.toNat]?=some (.int .u32 vt))
  (k0:0≤k) (k1:k≤31) (v0:0≤vs) (v1:vs<4294967296):
  Calls Tryz.prog 221 #[.agg #[.int .u32 r0,.int .u32 r1,.int .u32 r2,.int .u32 r3,.int .u32 r4,.int .u32 r5,.int .u32 r6,.int .u32 r7,.int .i64 pc],.agg #[.int .i64 5,.int .i64 d,.int .i64 s,.int .i64 t,.int .i64 u,.int .i64 a,.int .u32 k,.int .i64 z],.int .i64 self] w fun e w'=>e= .returned (.agg #[.int .u32 (upd d 0 (vs*2 ^ k.toNat % 4294967296) r0),.int .u32 (upd d 1 (vs*2 ^ k.toNat % 4294967296) r1),.int .u32 (upd d 2 (vs*2 ^ k.toNat % 4294967296) r2),.int .u32 (upd d 3 (vs*2 ^ k.toNat % 4294967296) r3),.int .u32 (upd d 4 (vs*2 ^ k.toNat % 4294967296) r4),.int .u32 (upd d 5 (vs*2 ^ k.toNat % 4294967296) r5),.int .u32 (upd d 6 (vs*2 ^ k.toNat % 4294967296) r6),.int .u32 (upd d 7 (vs*2 ^ k.toNat % 4294967296) r7),.int .i64 (pc+1)])∧Below w.heap.size w w':=by
 have hsd:∀ (w:World) (n:Nat) (a:Addr) (v:Value),(w.drewN n).setCell a v=(w.setCell a v).drewN n:=fun _ _ _ _=>rfl
 have hset:∀ v x8,#[Value.int .u32 r0,.int .u32 r1,.int .u32 r2,.int .u32 r3,.int .u32 r4,.int .u32 r5,.int .u32 r6,.int .u32 r7,x8].setIfInBounds d.toNat (.int .u32 v)=#[Value.int .u32 (upd d 0 v r0),Value.int .u32 (upd d 1 v r1),Value.int .u32 (upd d 2 v r2),Value.int .u32 (upd d 3 v r3),Value.int .u32 (upd d 4 v r4),Value.int .u32 (upd d 5 v r5),Value.int .u32 (upd d 6 v r6),Value.int .u32 (upd d 7 v r7),x8]:=fun v x8=>GR d v d0 d1 _ _ _ _ _ _ _ _ x8
 go_enter Tryz.func221,Tryz.ntmps221
 go_wp2_with fail
 refine (fG 5 d s t u a k z _ rfl).mono ?_
 rintro e w' ⟨rfl,rfl⟩
 go_wp2
 go_quiet (fail)
 go_wp2
 exact bodyPost_ret (v:= .agg #[.int .u32 (upd d 0 (vs*2 ^ k.toNat % 4294967296) r0),.int .u32 (upd d 1 (vs*2 ^ k.toNat % 4294967296) r1),.int .u32 (upd d 2 (vs*2 ^ k.toNat % 4294967296) r2),.int .u32 (upd d 3 (vs*2 ^ k.toNat % 4294967296) r3),.int .u32 (upd d 4 (vs*2 ^ k.toNat % 4294967296) r4),.int .u32 (upd d 5 (vs*2 ^ k.toNat % 4294967296) r5),.int .u32 (upd d 6 (vs*2 ^ k.toNat % 4294967296) r6),.int .u32 (upd d 7 (vs*2 ^ k.toNat % 4294967296) r7),.int .i64 (pc+1)]) (by simp [results,Tryz.results221,go_sem]) rfl ⟨rfl,by repeat (first|exact Below.refl _ _|apply aD|apply aH)⟩
theorem one_6 (r0 r1 r2 r3 r4 r5 r6 r7 pc d s t u a k z self vs vt vd:Int) (w:World)
  (d0:0≤d) (d1:d<8) (s0:0≤s) (s1:s<8) (t0:0≤t) (t1:t<8) (p0: -9223372036854775808≤pc) (p1:pc≤1099511627776)
  (hd:∀ x8,#[Value.int .u32 r0,.int .u32 r1,.int .u32 r2,.int .u32 r3,.int .u32 r4,.int .u32 r5,.int .u32 r6,.int .u32 r7,x8][d.toNat]?=some (.int .u32 vd)) (hs:∀ x8,#[Value.int .u32 r0,.int .u32 r1,.int .u32 r2,.int .u32 r3,.int .u32 r4,.int .u32 r5,.int .u32 r6,.int .u32 r7,x8][s.toNat]?=some (.int .u32 vs)) (ht:∀ x8,#[Value.int .u32 r0,.int .u32 r1,.int .u32 r2,.int .u32 r3,.int .u32 r4,.int .u32 r5,.int .u32 r6,.int .u32 r7,x8][t.toNat]?=some (.int .u32 vt))
  (k0:0≤k) (k1:k≤31) (v0:0≤vs) (v1:vs<4294967296):
  Calls Tryz.prog 221 #[.agg #[.int .u32 r0,.int .u32 r1,.int .u32 r2,.int .u32 r3,.int .u32 r4,.int .u32 r5,.int .u32 r6,.int .u32 r7,.int .i64 pc],.agg #[.int .i64 6,.int .i64 d,.int .i64 s,.int .i64 t,.int .i64 u,.int .i64 a,.int .u32 k,.int .i64 z],.int .i64 self] w fun e w'=>e= .returned (.agg #[.int .u32 (upd d 0 (vs / 2 ^ k.toNat) r0),.int .u32 (upd d 1 (vs / 2 ^ k.toNat) r1),.int .u32 (upd d 2 (vs / 2 ^ k.toNat) r2),.int .u32 (upd d 3 (vs / 2 ^ k.toNat) r3),.int .u32 (upd d 4 (vs / 2 ^ k.toNat) r4),.int .u32 (upd d 5 (vs / 2 ^ k.toNat) r5),.int .u32 (upd d 6 (vs / 2 ^ k.toNat) r6),.int .u32 (upd d 7 (vs / 2 ^ k.toNat) r7),.int .i64 (pc+1)])∧Below w.heap.size w w':=by
 have hsd:∀ (w:World) (n:Nat) (a:Addr) (v:Value),(w.drewN n).setCell a v=(w.setCell a v).drewN n:=fun _ _ _ _=>rfl
 have hset:∀ v x8,#[Value.int .u32 r0,.int .u32 r1,.int .u32 r2,.int .u32 r3,.int .u32 r4,.int .u32 r5,.int .u32 r6,.int .u32 r7,x8].setIfInBounds d.toNat (.int .u32 v)=#[Value.int .u32 (upd d 0 v r0),Value.int .u32 (upd d 1 v r1),Value.int .u32 (upd d 2 v r2),Value.int .u32 (upd d 3 v r3),Value.int .u32 (upd d 4 v r4),Value.int .u32 (upd d 5 v r5),Value.int .u32 (upd d 6 v r6),Value.int .u32 (upd d 7 v r7),x8]:=fun v x8=>GR d v d0 d1 _ _ _ _ _ _ _ _ x8
 go_enter Tryz.func221,Tryz.ntmps221
 go_wp2_with fail
 refine (fG 6 d s t u a k z _ rfl).mono ?_
 rintro e w' ⟨rfl,rfl⟩
 go_wp2
 go_quiet (fail)
 go_wp2
 exact bodyPost_ret (v:= .agg #[.int .u32 (upd d 0 (vs / 2 ^ k.toNat) r0),.int .u32 (upd d 1 (vs / 2 ^ k.toNat) r1),.int .u32 (upd d 2 (vs / 2 ^ k.toNat) r2),.int .u32 (upd d 3 (vs / 2 ^ k.toNat) r3),.int .u32 (upd d 4 (vs / 2 ^ k.toNat) r4),.int .u32 (upd d 5 (vs / 2 ^ k.toNat) r5),.int .u32 (upd d 6 (vs / 2 ^ k.toNat) r6),.int .u32 (upd d 7 (vs / 2 ^ k.toNat) r7),.int .i64 (pc+1)]) (by simp [results,Tryz.results221,go_sem]) rfl ⟨rfl,by repeat (first|exact Below.refl _ _|apply aD|apply aH)⟩
theorem one_7 (r0 r1 r2 r3 r4 r5 r6 r7 pc d s t u a k z self vs vt vd:Int) (w:World)
  (d0:0≤d) (d1:d<8) (s0:0≤s) (s1:s<8) (t0:0≤t) (t1:t<8) (p0: -9223372036854775808≤pc) (p1:pc≤1099511627776)
  (hd:∀ x8,#[Value.int .u32 r0,.int .u32 r1,.int .u32 r2,.int .u32 r3,.int .u32 r4,.int .u32 r5,.int .u32 r6,.int .u32 r7,x8][d.toNat]?=some (.int .u32 vd)) (hs:∀ x8,#[Value.int .u32 r0,.int .u32 r1,.int .u32 r2,.int .u32 r3,.int .u32 r4,.int .u32 r5,.int .u32 r6,.int .u32 r7,x8][s.toNat]?=some (.int .u32 vs)) (ht:∀ x8,#[Value.int .u32 r0,.int .u32 r1,.int .u32 r2,.int .u32 r3,.int .u32 r4,.int .u32 r5,.int .u32 r6,.int .u32 r7,x8][t.toNat]?=some (.int .u32 vt))
 :
  Calls Tryz.prog 221 #[.agg #[.int .u32 r0,.int .u32 r1,.int .u32 r2,.int .u32 r3,.int .u32 r4,.int .u32 r5,.int .u32 r6,.int .u32 r7,.int .i64 pc],.agg #[.int .i64 7,.int .i64 d,.int .i64 s,.int .i64 t,.int .i64 u,.int .i64 a,.int .u32 k,.int .i64 z],.int .i64 self] w fun e w'=>e= .returned (.agg #[.int .u32 (upd d 0 (Go.bits .or .u32 vs vt) r0),.int .u32 (upd d 1 (Go.bits .or .u32 vs vt) r1),.int .u32 (upd d 2 (Go.bits .or .u32 vs vt) r2),.int .u32 (upd d 3 (Go.bits .or .u32 vs vt) r3),.int .u32 (upd d 4 (Go.bits .or .u32 vs vt) r4),.int .u32 (upd d 5 (Go.bits .or .u32 vs vt) r5),.int .u32 (upd d 6 (Go.bits .or .u32 vs vt) r6),.int .u32 (upd d 7 (Go.bits .or .u32 vs vt) r7),.int .i64 (pc+1)])∧Below w.heap.size w w':=by
 have hsd:∀ (w:World) (n:Nat) (a:Addr) (v:Value),(w.drewN n).setCell a v=(w.setCell a v).drewN n:=fun _ _ _ _=>rfl
 have hset:∀ v x8,#[Value.int .u32 r0,.int .u32 r1,.int .u32 r2,.int .u32 r3,.int .u32 r4,.int .u32 r5,.int .u32 r6,.int .u32 r7,x8].setIfInBounds d.toNat (.int .u32 v)=#[Value.int .u32 (upd d 0 v r0),Value.int .u32 (upd d 1 v r1),Value.int .u32 (upd d 2 v r2),Value.int .u32 (upd d 3 v r3),Value.int .u32 (upd d 4 v r4),Value.int .u32 (upd d 5 v r5),Value.int .u32 (upd d 6 v r6),Value.int .u32 (upd d 7 v r7),x8]:=fun v x8=>GR d v d0 d1 _ _ _ _ _ _ _ _ x8
 go_enter Tryz.func221,Tryz.ntmps221
 go_wp2_with fail
 refine (fG 7 d s t u a k z _ rfl).mono ?_
 rintro e w' ⟨rfl,rfl⟩
 go_wp2
 go_quiet (fail)
 go_wp2
 exact bodyPost_ret (v:= .agg #[.int .u32 (upd d 0 (Go.bits .or .u32 vs vt) r0),.int .u32 (upd d 1 (Go.bits .or .u32 vs vt) r1),.int .u32 (upd d 2 (Go.bits .or .u32 vs vt) r2),.int .u32 (upd d 3 (Go.bits .or .u32 vs vt) r3),.int .u32 (upd d 4 (Go.bits .or .u32 vs vt) r4),.int .u32 (upd d 5 (Go.bits .or .u32 vs vt) r5),.int .u32 (upd d 6 (Go.bits .or .u32 vs vt) r6),.int .u32 (upd d 7 (Go.bits .or .u32 vs vt) r7),.int .i64 (pc+1)]) (by simp [results,Tryz.results221,go_sem]) rfl ⟨rfl,by repeat (first|exact Below.refl _ _|apply aD|apply aH)⟩
theorem one_11 (r0 r1 r2 r3 r4 r5 r6 r7 pc d s t u a k z self vs vt vd:Int) (w:World)
  (d0:0≤d) (d1:d<8) (s0:0≤s) (s1:s<8) (t0:0≤t) (t1:t<8) (p0: -9223372036854775808≤pc) (p1:pc≤1099511627776)
  (hd:∀ x8,#[Value.int .u32 r0,.int .u32 r1,.int .u32 r2,.int .u32 r3,.int .u32 r4,.int .u32 r5,.int .u32 r6,.int .u32 r7,x8][d.toNat]?=some (.int .u32 vd)) (hs:∀ x8,#[Value.int .u32 r0,.int .u32 r1,.int .u32 r2,.int .u32 r3,.int .u32 r4,.int .u32 r5,.int .u32 r6,.int .u32 r7,x8][s.toNat]?=some (.int .u32 vs)) (ht:∀ x8,#[Value.int .u32 r0,.int .u32 r1,.int .u32 r2,.int .u32 r3,.int .u32 r4,.int .u32 r5,.int .u32 r6,.int .u32 r7,x8][t.toNat]?=some (.int .u32 vt))
  (k0:0≤self) (k1:self<64):
  Calls Tryz.prog 221 #[.agg #[.int .u32 r0,.int .u32 r1,.int .u32 r2,.int .u32 r3,.int .u32 r4,.int .u32 r5,.int .u32 r6,.int .u32 r7,.int .i64 pc],.agg #[.int .i64 11,.int .i64 d,.int .i64 s,.int .i64 t,.int .i64 u,.int .i64 a,.int .u32 k,.int .i64 z],.int .i64 self] w fun e w'=>e= .returned (.agg #[.int .u32 (upd d 0 (self) r0),.int .u32 (upd d 1 (self) r1),.int .u32 (upd d 2 (self) r2),.int .u32 (upd d 3 (self) r3),.int .u32 (upd d 4 (self) r4),.int .u32 (upd d 5 (self) r5),.int .u32 (upd d 6 (self) r6),.int .u32 (upd d 7 (self) r7),.int .i64 (pc+1)])∧Below w.heap.size w w':=by
 have hsd:∀ (w:World) (n:Nat) (a:Addr) (v:Value),(w.drewN n).setCell a v=(w.setCell a v).drewN n:=fun _ _ _ _=>rfl
 have hset:∀ v x8,#[Value.int .u32 r0,.int .u32 r1,.int .u32 r2,.int .u32 r3,.int .u32 r4,.int .u32 r5,.int .u32 r6,.int .u32 r7,x8].setIfInBounds d.toNat (.int .u32 v)=#[Value.int .u32 (upd d 0 v r0),Value.int .u32 (upd d 1 v r1),Value.int .u32 (upd d 2 v r2),Value.int .u32 (upd d 3 v r3),Value.int .u32 (upd d 4 v r4),Value.int .u32 (upd d 5 v r5),Value.int .u32 (upd d 6 v r6),Value.int .u32 (upd d 7 v r7),x8]:=fun v x8=>GR d v d0 d1 _ _ _ _ _ _ _ _ x8
 go_enter Tryz.func221,Tryz.ntmps221
 go_wp2_with fail
 refine (fG 11 d s t u a k z _ rfl).mono ?_
 rintro e w' ⟨rfl,rfl⟩
 go_wp2
 go_quiet (fail)
 go_wp2
 exact bodyPost_ret (v:= .agg #[.int .u32 (upd d 0 (self) r0),.int .u32 (upd d 1 (self) r1),.int .u32 (upd d 2 (self) r2),.int .u32 (upd d 3 (self) r3),.int .u32 (upd d 4 (self) r4),.int .u32 (upd d 5 (self) r5),.int .u32 (upd d 6 (self) r6),.int .u32 (upd d 7 (self) r7),.int .i64 (pc+1)]) (by simp [results,Tryz.results221,go_sem]) rfl ⟨rfl,by repeat (first|exact Below.refl _ _|apply aD|apply aH)⟩
theorem one_8t (r0 r1 r2 r3 r4 r5 r6 r7 pc d s t u a k z self vs vt vd:Int) (w:World)
  (d0:0≤d) (d1:d<8) (s0:0≤s) (s1:s<8) (t0:0≤t) (t1:t<8) (p0: -9223372036854775808≤pc) (p1:pc≤1099511627776)
  (hd:∀ x8,#[Value.int .u32 r0,.int .u32 r1,.int .u32 r2,.int .u32 r3,.int .u32 r4,.int .u32 r5,.int .u32 r6,.int .u32 r7,x8][d.toNat]?=some (.int .u32 vd)) (hs:∀ x8,#[Value.int .u32 r0,.int .u32 r1,.int .u32 r2,.int .u32 r3,.int .u32 r4,.int .u32 r5,.int .u32 r6,.int .u32 r7,x8][s.toNat]?=some (.int .u32 vs)) (ht:∀ x8,#[Value.int .u32 r0,.int .u32 r1,.int .u32 r2,.int .u32 r3,.int .u32 r4,.int .u32 r5,.int .u32 r6,.int .u32 r7,x8][t.toNat]?=some (.int .u32 vt))
  (e:(vs==vt)=true):
  Calls Tryz.prog 221 #[.agg #[.int .u32 r0,.int .u32 r1,.int .u32 r2,.int .u32 r3,.int .u32 r4,.int .u32 r5,.int .u32 r6,.int .u32 r7,.int .i64 pc],.agg #[.int .i64 8,.int .i64 d,.int .i64 s,.int .i64 t,.int .i64 u,.int .i64 a,.int .u32 k,.int .i64 z],.int .i64 self] w fun e w'=>e= .returned (.agg #[.int .u32 r0,.int .u32 r1,.int .u32 r2,.int .u32 r3,.int .u32 r4,.int .u32 r5,.int .u32 r6,.int .u32 r7,.int .i64 (z)])∧Below w.heap.size w w':=by
 have hsd:∀ (w:World) (n:Nat) (a:Addr) (v:Value),(w.drewN n).setCell a v=(w.setCell a v).drewN n:=fun _ _ _ _=>rfl
 go_enter Tryz.func221,Tryz.ntmps221
 go_wp2_with fail
 refine (fG 8 d s t u a k z _ rfl).mono ?_
 rintro e w' ⟨rfl,rfl⟩
 go_wp2
 go_quiet (fail)
 go_wp2
 exact bodyPost_ret (v:= .agg #[.int .u32 r0,.int .u32 r1,.int .u32 r2,.int .u32 r3,.int .u32 r4,.int .u32 r5,.int .u32 r6,.int .u32 r7,.int .i64 (z)]) (by simp [results,Tryz.results221,go_sem]) rfl ⟨rfl,by repeat (first|exact Below.refl _ _|apply aD|apply aH)⟩
theorem one_8f (r0 r1 r2 r3 r4 r5 r6 r7 pc d s t u a k z self vs vt vd:Int) (w:World)
  (d0:0≤d) (d1:d<8) (s0:0≤s) (s1:s<8) (t0:0≤t) (t1:t<8) (p0: -9223372036854775808≤pc) (p1:pc≤1099511627776)
  (hd:∀ x8,#[Value.int .u32 r0,.int .u32 r1,.int .u32 r2,.int .u32 r3,.int .u32 r4,.int .u32 r5,.int .u32 r6,.int .u32 r7,x8][d.toNat]?=some (.int .u32 vd)) (hs:∀ x8,#[Value.int .u32 r0,.int .u32 r1,.int .u32 r2,.int .u32 r3,.int .u32 r4,.int .u32 r5,.int .u32 r6,.int .u32 r7,x8][s.toNat]?=some (.int .u32 vs)) (ht:∀ x8,#[Value.int .u32 r0,.int .u32 r1,.int .u32 r2,.int .u32 r3,.int .u32 r4,.int .u32 r5,.int .u32 r6,.int .u32 r7,x8][t.toNat]?=some (.int .u32 vt))
  (e:(vs==vt)=false):
  Calls Tryz.prog 221 #[.agg #[.int .u32 r0,.int .u32 r1,.int .u32 r2,.int .u32 r3,.int .u32 r4,.int .u32 r5,.int .u32 r6,.int .u32 r7,.int .i64 pc],.agg #[.int .i64 8,.int .i64 d,.int .i64 s,.int .i64 t,.int .i64 u,.int .i64 a,.int .u32 k,.int .i64 z],.int .i64 self] w fun e w'=>e= .returned (.agg #[.int .u32 r0,.int .u32 r1,.int .u32 r2,.int .u32 r3,.int .u32 r4,.int .u32 r5,.int .u32 r6,.int .u32 r7,.int .i64 (pc+1)])∧Below w.heap.size w w':=by
 have hsd:∀ (w:World) (n:Nat) (a:Addr) (v:Value),(w.drewN n).setCell a v=(w.setCell a v).drewN n:=fun _ _ _ _=>rfl
 go_enter Tryz.func221,Tryz.ntmps221
 go_wp2_with fail
 refine (fG 8 d s t u a k z _ rfl).mono ?_
 rintro e w' ⟨rfl,rfl⟩
 go_wp2
 go_quiet (fail)
 go_wp2
 exact bodyPost_ret (v:= .agg #[.int .u32 r0,.int .u32 r1,.int .u32 r2,.int .u32 r3,.int .u32 r4,.int .u32 r5,.int .u32 r6,.int .u32 r7,.int .i64 (pc+1)]) (by simp [results,Tryz.results221,go_sem]) rfl ⟨rfl,by repeat (first|exact Below.refl _ _|apply aD|apply aH)⟩
theorem one_9t (r0 r1 r2 r3 r4 r5 r6 r7 pc d s t u a k z self vs vt vd:Int) (w:World)
  (d0:0≤d) (d1:d<8) (s0:0≤s) (s1:s<8) (t0:0≤t) (t1:t<8) (p0: -9223372036854775808≤pc) (p1:pc≤1099511627776)
  (hd:∀ x8,#[Value.int .u32 r0,.int .u32 r1,.int .u32 r2,.int .u32 r3,.int .u32 r4,.int .u32 r5,.int .u32 r6,.int .u32 r7,x8][d.toNat]?=some (.int .u32 vd)) (hs:∀ x8,#[Value.int .u32 r0,.int .u32 r1,.int .u32 r2,.int .u32 r3,.int .u32 r4,.int .u32 r5,.int .u32 r6,.int .u32 r7,x8][s.toNat]?=some (.int .u32 vs)) (ht:∀ x8,#[Value.int .u32 r0,.int .u32 r1,.int .u32 r2,.int .u32 r3,.int .u32 r4,.int .u32 r5,.int .u32 r6,.int .u32 r7,x8][t.toNat]?=some (.int .u32 vt))
  (e:(vs==vt)=false):
  Calls Tryz.prog 221 #[.agg #[.int .u32 r0,.int .u32 r1,.int .u32 r2,.int .u32 r3,.int .u32 r4,.int .u32 r5,.int .u32 r6,.int .u32 r7,.int .i64 pc],.agg #[.int .i64 9,.int .i64 d,.int .i64 s,.int .i64 t,.int .i64 u,.int .i64 a,.int .u32 k,.int .i64 z],.int .i64 self] w fun e w'=>e= .returned (.agg #[.int .u32 r0,.int .u32 r1,.int .u32 r2,.int .u32 r3,.int .u32 r4,.int .u32 r5,.int .u32 r6,.int .u32 r7,.int .i64 (z)])∧Below w.heap.size w w':=by
 have hsd:∀ (w:World) (n:Nat) (a:Addr) (v:Value),(w.drewN n).setCell a v=(w.setCell a v).drewN n:=fun _ _ _ _=>rfl
 go_enter Tryz.func221,Tryz.ntmps221
 go_wp2_with fail
 refine (fG 9 d s t u a k z _ rfl).mono ?_
 rintro e w' ⟨rfl,rfl⟩
 go_wp2
 go_quiet (fail)
 go_wp2
 exact bodyPost_ret (v:= .agg #[.int .u32 r0,.int .u32 r1,.int .u32 r2,.int .u32 r3,.int .u32 r4,.int .u32 r5,.int .u32 r6,.int .u32 r7,.int .i64 (z)]) (by simp [results,Tryz.results221,go_sem]) rfl ⟨rfl,by repeat (first|exact Below.refl _ _|apply aD|apply aH)⟩
theorem one_9f (r0 r1 r2 r3 r4 r5 r6 r7 pc d s t u a k z self vs vt vd:Int) (w:World)
  (d0:0≤d) (d1:d<8) (s0:0≤s) (s1:s<8) (t0:0≤t) (t1:t<8) (p0: -9223372036854775808≤pc) (p1:pc≤1099511627776)
  (hd:∀ x8,#[Value.int .u32 r0,.int .u32 r1,.int .u32 r2,.int .u32 r3,.int .u32 r4,.int .u32 r5,.int .u32 r6,.int .u32 r7,x8][d.toNat]?=some (.int .u32 vd)) (hs:∀ x8,#[Value.int .u32 r0,.int .u32 r1,.int .u32 r2,.int .u32 r3,.int .u32 r4,.int .u32 r5,.int .u32 r6,.int .u32 r7,x8][s.toNat]?=some (.int .u32 vs)) (ht:∀ x8,#[Value.int .u32 r0,.int .u32 r1,.int .u32 r2,.int .u32 r3,.int .u32 r4,.int .u32 r5,.int .u32 r6,.int .u32 r7,x8][t.toNat]?=some (.int .u32 vt))
  (e:(vs==vt)=true):
  Calls Tryz.prog 221 #[.agg #[.int .u32 r0,.int .u32 r1,.int .u32 r2,.int .u32 r3,.int .u32 r4,.int .u32 r5,.int .u32 r6,.int .u32 r7,.int .i64 pc],.agg #[.int .i64 9,.int .i64 d,.int .i64 s,.int .i64 t,.int .i64 u,.int .i64 a,.int .u32 k,.int .i64 z],.int .i64 self] w fun e w'=>e= .returned (.agg #[.int .u32 r0,.int .u32 r1,.int .u32 r2,.int .u32 r3,.int .u32 r4,.int .u32 r5,.int .u32 r6,.int .u32 r7,.int .i64 (pc+1)])∧Below w.heap.size w w':=by
 have hsd:∀ (w:World) (n:Nat) (a:Addr) (v:Value),(w.drewN n).setCell a v=(w.setCell a v).drewN n:=fun _ _ _ _=>rfl
 go_enter Tryz.func221,Tryz.ntmps221
 go_wp2_with fail
 refine (fG 9 d s t u a k z _ rfl).mono ?_
 rintro e w' ⟨rfl,rfl⟩
 go_wp2
 go_quiet (fail)
 go_wp2
 exact bodyPost_ret (v:= .agg #[.int .u32 r0,.int .u32 r1,.int .u32 r2,.int .u32 r3,.int .u32 r4,.int .u32 r5,.int .u32 r6,.int .u32 r7,.int .i64 (pc+1)]) (by simp [results,Tryz.results221,go_sem]) rfl ⟨rfl,by repeat (first|exact Below.refl _ _|apply aD|apply aH)⟩
theorem one_10 (r0 r1 r2 r3 r4 r5 r6 r7 pc d s t u a k z self vs vt vd:Int) (w:World)
  (d0:0≤d) (d1:d<8) (s0:0≤s) (s1:s<8) (t0:0≤t) (t1:t<8) (p0: -9223372036854775808≤pc) (p1:pc≤1099511627776)
  (hd:∀ x8,#[Value.int .u32 r0,.int .u32 r1,.int .u32 r2,.int .u32 r3,.int .u32 r4,.int .u32 r5,.int .u32 r6,.int .u32 r7,x8][d.toNat]?=some (.int .u32 vd)) (hs:∀ x8,#[Value.int .u32 r0,.int .u32 r1,.int .u32 r2,.int .u32 r3,.int .u32 r4,.int .u32 r5,.int .u32 r6,.int .u32 r7,x8][s.toNat]?=some (.int .u32 vs)) (ht:∀ x8,#[Value.int .u32 r0,.int .u32 r1,.int .u32 r2,.int .u32 r3,.int .u32 r4,.int .u32 r5,.int .u32 r6,.int .u32 r7,x8][t.toNat]?=some (.int .u32 vt))
 :
  Calls Tryz.prog 221 #[.agg #[.int .u32 r0,.int .u32 r1,.int .u32 r2,.int .u32 r3,.int .u32 r4,.int .u32 r5,.int .u32 r6,.int .u32 r7,.int .i64 pc],.agg #[.int .i64 10,.int .i64 d,.int .i64 s,.int .i64 t,.int .i64 u,.int .i64 a,.int .u32 k,.int .i64 z],.int .i64 self] w fun e w'=>e= .returned (.agg #[.int .u32 r0,.int .u32 r1,.int .u32 r2,.int .u32 r3,.int .u32 r4,.int .u32 r5,.int .u32 r6,.int .u32 r7,.int .i64 (z)])∧Below w.heap.size w w':=by
 have hsd:∀ (w:World) (n:Nat) (a:Addr) (v:Value),(w.drewN n).setCell a v=(w.setCell a v).drewN n:=fun _ _ _ _=>rfl
 go_enter Tryz.func221,Tryz.ntmps221
 go_wp2_with fail
 refine (fG 10 d s t u a k z _ rfl).mono ?_
 rintro e w' ⟨rfl,rfl⟩
 go_wp2
 go_quiet (fail)
 go_wp2
 exact bodyPost_ret (v:= .agg #[.int .u32 r0,.int .u32 r1,.int .u32 r2,.int .u32 r3,.int .u32 r4,.int .u32 r5,.int .u32 r6,.int .u32 r7,.int .i64 (z)]) (by simp [results,Tryz.results221,go_sem]) rfl ⟨rfl,by repeat (first|exact Below.refl _ _|apply aD|apply aH)⟩
theorem one_12 (r0 r1 r2 r3 r4 r5 r6 r7 pc d s t u a k z self vs vt vd:Int) (w:World)
  (d0:0≤d) (d1:d<8) (s0:0≤s) (s1:s<8) (t0:0≤t) (t1:t<8) (p0: -9223372036854775808≤pc) (p1:pc≤1099511627776)
  (hd:∀ x8,#[Value.int .u32 r0,.int .u32 r1,.int .u32 r2,.int .u32 r3,.int .u32 r4,.int .u32 r5,.int .u32 r6,.int .u32 r7,x8][d.toNat]?=some (.int .u32 vd)) (hs:∀ x8,#[Value.int .u32 r0,.int .u32 r1,.int .u32 r2,.int .u32 r3,.int .u32 r4,.int .u32 r5,.int .u32 r6,.int .u32 r7,x8][s.toNat]?=some (.int .u32 vs)) (ht:∀ x8,#[Value.int .u32 r0,.int .u32 r1,.int .u32 r2,.int .u32 r3,.int .u32 r4,.int .u32 r5,.int .u32 r6,.int .u32 r7,x8][t.toNat]?=some (.int .u32 vt))
 :
  Calls Tryz.prog 221 #[.agg #[.int .u32 r0,.int .u32 r1,.int .u32 r2,.int .u32 r3,.int .u32 r4,.int .u32 r5,.int .u32 r6,.int .u32 r7,.int .i64 pc],.agg #[.int .i64 12,.int .i64 d,.int .i64 s,.int .i64 t,.int .i64 u,.int .i64 a,.int .u32 k,.int .i64 z],.int .i64 self] w fun e w'=>e= .returned (.agg #[.int .u32 r0,.int .u32 r1,.int .u32 r2,.int .u32 r3,.int .u32 r4,.int .u32 r5,.int .u32 r6,.int .u32 r7,.int .i64 (pc+1)])∧Below w.heap.size w w':=by
 have hsd:∀ (w:World) (n:Nat) (a:Addr) (v:Value),(w.drewN n).setCell a v=(w.setCell a v).drewN n:=fun _ _ _ _=>rfl
 go_enter Tryz.func221,Tryz.ntmps221
 go_wp2_with fail
 refine (fG 12 d s t u a k z _ rfl).mono ?_
 rintro e w' ⟨rfl,rfl⟩
 go_wp2
 go_quiet (fail)
 go_wp2
 exact bodyPost_ret (v:= .agg #[.int .u32 r0,.int .u32 r1,.int .u32 r2,.int .u32 r3,.int .u32 r4,.int .u32 r5,.int .u32 r6,.int .u32 r7,.int .i64 (pc+1)]) (by simp [results,Tryz.results221,go_sem]) rfl ⟨rfl,by repeat (first|exact Below.refl _ _|apply aD|apply aH)⟩
theorem WK (r0 r1 r2 r3 r4 r5 r6 r7 pc op d s t u a k z self:Int) (w:World) (h0:decide (16≤op)=true) (h1:decide (op≤23)=true):
  Calls Tryz.prog 221 #[.agg #[.int .u32 r0,.int .u32 r1,.int .u32 r2,.int .u32 r3,.int .u32 r4,.int .u32 r5,.int .u32 r6,.int .u32 r7,.int .i64 pc],.agg #[.int .i64 op,.int .i64 d,.int .i64 s,.int .i64 t,.int .i64 u,.int .i64 a,.int .u32 k,.int .i64 z],.int .i64 self] w fun e w'=>e= .returned (.agg #[.int .u32 r0,.int .u32 r1,.int .u32 r2,.int .u32 r3,.int .u32 r4,.int .u32 r5,.int .u32 r6,.int .u32 r7,.int .i64 pc])∧Below w.heap.size w w':=by
 go_enter Tryz.func221,Tryz.ntmps221
 go_wp2_with fail
 refine (K8 op d s t u a k z _ h0 h1).mono ?_
 rintro e w' ⟨rfl,rfl⟩
 go_wp2
 exact bodyPost_ret (v:= .agg #[.int .u32 r0,.int .u32 r1,.int .u32 r2,.int .u32 r3,.int .u32 r4,.int .u32 r5,.int .u32 r6,.int .u32 r7,.int .i64 pc]) (by simp [results,Tryz.results221,go_sem]) rfl ⟨rfl,by repeat (first|exact Below.refl _ _|apply aD|apply aH)⟩
theorem one_13 (r0 r1 r2 r3 r4 r5 r6 r7 pc d s t u a k z self:Int) (w:World):
  Calls Tryz.prog 221 #[.agg #[.int .u32 r0,.int .u32 r1,.int .u32 r2,.int .u32 r3,.int .u32 r4,.int .u32 r5,.int .u32 r6,.int .u32 r7,.int .i64 pc],.agg #[.int .i64 13,.int .i64 d,.int .i64 s,.int .i64 t,.int .i64 u,.int .i64 a,.int .u32 k,.int .i64 z],.int .i64 self] w fun e w'=>e= .returned (.agg #[.int .u32 r0,.int .u32 r1,.int .u32 r2,.int .u32 r3,.int .u32 r4,.int .u32 r5,.int .u32 r6,.int .u32 r7,.int .i64 pc])∧Below w.heap.size w w':=by
 go_enter Tryz.func221,Tryz.ntmps221
 go_wp2_with fail
 refine (fG 13 d s t u a k z _ rfl).mono ?_
 rintro e w' ⟨rfl,rfl⟩
 go_wp2
 exact bodyPost_ret (v:= .agg #[.int .u32 r0,.int .u32 r1,.int .u32 r2,.int .u32 r3,.int .u32 r4,.int .u32 r5,.int .u32 r6,.int .u32 r7,.int .i64 pc]) (by simp [results,Tryz.results221,go_sem]) rfl ⟨rfl,by repeat (first|exact Below.refl _ _|apply aD|apply aH)⟩
namespace Cr
def get (c:Cr) (i:Int):Int:=if i=0 then c.r0 else if i=1 then c.r1 else if i=2 then c.r2 else if i=3 then c.r3 else if i=4 then c.r4 else if i=5 then c.r5 else if i=6 then c.r6 else c.r7
def set (c:Cr) (i v:Int):Cr:=⟨upd i 0 v c.r0,upd i 1 v c.r1,upd i 2 v c.r2,upd i 3 v c.r3,upd i 4 v c.r4,upd i 5 v c.r5,upd i 6 v c.r6,upd i 7 v c.r7,c.pc⟩
def goto (c:Cr) (p:Int):Cr:=⟨c.r0,c.r1,c.r2,c.r3,c.r4,c.r5,c.r6,c.r7,p⟩
def val (c:Cr):Value:= .agg #[.int .u32 c.r0,.int .u32 c.r1,.int .u32 c.r2,.int .u32 c.r3,.int .u32 c.r4,.int .u32 c.r5,.int .u32 c.r6,.int .u32 c.r7,.int .i64 c.pc]
def ok (c:Cr):Prop:=(0≤c.r0∧c.r0<4294967296)∧(0≤c.r1∧c.r1<4294967296)∧(0≤c.r2∧c.r2<4294967296)∧(0≤c.r3∧c.r3<4294967296)∧(0≤c.r4∧c.r4<4294967296)∧(0≤c.r5∧c.r5<4294967296)∧(0≤c.r6∧c.r6<4294967296)∧(0≤c.r7∧c.r7<4294967296)
theorem mO {c:Cr} (h:c.ok) (i:Int):0≤c.get i∧c.get i<4294967296:=by
 obtain ⟨h0,h1,h2,h3,h4,h5,h6,h7⟩:=h
 unfold get
 split
 ·exact h0
 split
 ·exact h1
 split
 ·exact h2
 split
 ·exact h3
 split
 ·exact h4
 split
 ·exact h5
 split
 ·exact h6
 ·exact h7
theorem lC {c:Cr} (h:c.ok) (i v:Int) (h0:0≤v) (h1:v<4294967296):(c.set i v).ok:=by
 obtain ⟨g0,g1,g2,g3,g4,g5,g6,g7⟩:=h
 have key:∀ (j r:Int),(0≤r∧r<4294967296)→(0≤upd i j v r∧upd i j v r<4294967296):=fun j r hr=>by
  unfold upd;split
  ·exact ⟨h0,h1⟩
  ·exact hr
 exact ⟨key 0 _ g0,key 1 _ g1,key 2 _ g2,key 3 _ g3,key 4 _ g4,key 5 _ g5,key 6 _ g6,key 7 _ g7⟩
theorem gU {c:Cr} (h:c.ok) (p:Int):(c.goto p).ok:=h
end Cr
theorem at8 (K:IntKind) (c:Cr) (i:Int) (h0:0≤i) (h1:i<8) (x8:Value):#[Value.int K c.r0,.int K c.r1,.int K c.r2,.int K c.r3,.int K c.r4,.int K c.r5,.int K c.r6,.int K c.r7,x8][i.toNat]?=some (.int K (c.get i)):=by
 have h:i=0∨i=1∨i=2∨i=3∨i=4∨i=5∨i=6∨i=7:=by omega
 rcases h with rfl|rfl|rfl|rfl|rfl|rfl|rfl|rfl <;> simp [Cr.get]
def writes (c:Cr) (i:dA) (self:Int):Option Int:=
 if i.op=1 then some i.k else if i.op=2 then some (c.get i.s) else if i.op=3 then some ((c.get i.s+i.k) % 4294967296) else if i.op=4 then some (Go.bits .and .u32 (c.get i.s) i.k)
 else if i.op=5 then some (c.get i.s*2 ^ i.k.toNat % 4294967296) else if i.op=6 then some (c.get i.s / 2 ^ i.k.toNat) else if i.op=7 then some (Go.bits .or .u32 (c.get i.s) (c.get i.t)) else if i.op=11 then some self else none
def next (c:Cr) (i:dA):Int:=if i.op=10∨i.op=8∧c.get i.s=c.get i.t∨i.op=9∧¬ c.get i.s=c.get i.t then i.to_ else c.pc+1
def step (c:Cr) (i:dA) (self:Int):Cr:=
 if 16≤i.op∨i.op=13 then c else match writes c i self with
  |some v=>(c.set i.d v).goto (c.pc+1)
  |none=>c.goto (next c i)
structure okI (i:dA):Prop where
 op:1≤i.op∧i.op≤13∨16≤i.op∧i.op≤23
 d:0≤i.d∧i.d<8
 s:0≤i.s∧i.s<8
 t:0≤i.t∧i.t<8
 k:0≤i.k∧i.k<4294967296
 sh:i.op=5∨i.op=6→i.k≤31
def ival (i:dA):Value:= .agg #[.int .i64 i.op,.int .i64 i.d,.int .i64 i.s,.int .i64 i.t,.int .i64 i.u,.int .i64 i.a,.int .u32 i.k,.int .i64 i.to_]
theorem zU (c:Cr) (i:dA) (self:Int) (w:World) (hc:c.ok) (p0: -9223372036854775808≤c.pc) (p1:c.pc≤1099511627776) (hi:okI i) (f0:0≤self) (f1:self<64):
  Calls Tryz.prog 221 #[c.val,ival i,.int .i64 self] w fun e w'=>e= .returned (step c i self).val∧Below w.heap.size w w':=by
 obtain ⟨op,d,s,t,u,a,k,z⟩:=i
 obtain ⟨ho,⟨d0,d1⟩,⟨s0,s1⟩,⟨t0,t1⟩,⟨k0,k2⟩,hsh⟩:=hi
 dsimp only at ho d0 d1 s0 s1 t0 t1 k0 k2 hsh
 have k1:k≤4294967295:=by omega
 have hd:=at8 .u32 c d d0 d1
 have hs:=at8 .u32 c s s0 s1
 have ht:=at8 .u32 c t t0 t1
 obtain ⟨v0,v1⟩:=Cr.mO hc s
 obtain ⟨y0,y1⟩:=Cr.mO hc t
 have ho:op=1∨op=2∨op=3∨op=4∨op=5∨op=6∨op=7∨op=8∨op=9∨op=10∨op=11∨op=12∨op=13∨16≤op∧op≤23:=by omega
 show Calls Tryz.prog 221 #[.agg #[.int .u32 c.r0,.int .u32 c.r1,.int .u32 c.r2,.int .u32 c.r3,.int .u32 c.r4,.int .u32 c.r5,.int .u32 c.r6,.int .u32 c.r7,.int .i64 c.pc],.agg #[.int .i64 op,.int .i64 d,.int .i64 s,.int .i64 t,.int .i64 u,.int .i64 a,.int .u32 k,.int .i64 z],.int .i64 self] w _
 rcases ho with rfl|rfl|rfl|rfl|rfl|rfl|rfl|rfl|rfl|rfl|rfl|rfl|rfl|⟨hm0,hm1⟩
 ·refine (one_1 c.r0 c.r1 c.r2 c.r3 c.r4 c.r5 c.r6 c.r7 c.pc d s t u a k z self (c.get s) (c.get t) (c.get d) w d0 d1 s0 s1 t0 t1 p0 p1 hd hs ht).mono fun _ w' h=>⟨h.1.trans (congrArg Ending.returned ?_),h.2⟩
  rfl
 ·refine (one_2 c.r0 c.r1 c.r2 c.r3 c.r4 c.r5 c.r6 c.r7 c.pc d s t u a k z self (c.get s) (c.get t) (c.get d) w d0 d1 s0 s1 t0 t1 p0 p1 hd hs ht).mono fun _ w' h=>⟨h.1.trans (congrArg Ending.returned ?_),h.2⟩
  rfl
 ·refine (one_3 c.r0 c.r1 c.r2 c.r3 c.r4 c.r5 c.r6 c.r7 c.pc d s t u a k z self (c.get s) (c.get t) (c.get d) w d0 d1 s0 s1 t0 t1 p0 p1 hd hs ht).mono fun _ w' h=>⟨h.1.trans (congrArg Ending.returned ?_),h.2⟩
  rfl
 ·refine (one_4 c.r0 c.r1 c.r2 c.r3 c.r4 c.r5 c.r6 c.r7 c.pc d s t u a k z self (c.get s) (c.get t) (c.get d) w d0 d1 s0 s1 t0 t1 p0 p1 hd hs ht).mono fun _ w' h=>⟨h.1.trans (congrArg Ending.returned ?_),h.2⟩
  rfl
 ·refine (one_5 c.r0 c.r1 c.r2 c.r3 c.r4 c.r5 c.r6 c.r7 c.pc d s t u a k z self (c.get s) (c.get t) (c.get d) w d0 d1 s0 s1 t0 t1 p0 p1 hd hs ht k0 (hsh (.inl rfl)) v0 v1).mono fun _ w' h=>⟨h.1.trans (congrArg Ending.returned ?_),h.2⟩
  rfl
 ·refine (one_6 c.r0 c.r1 c.r2 c.r3 c.r4 c.r5 c.r6 c.r7 c.pc d s t u a k z self (c.get s) (c.get t) (c.get d) w d0 d1 s0 s1 t0 t1 p0 p1 hd hs ht k0 (hsh (.inr rfl)) v0 v1).mono fun _ w' h=>⟨h.1.trans (congrArg Ending.returned ?_),h.2⟩
  rfl
 ·refine (one_7 c.r0 c.r1 c.r2 c.r3 c.r4 c.r5 c.r6 c.r7 c.pc d s t u a k z self (c.get s) (c.get t) (c.get d) w d0 d1 s0 s1 t0 t1 p0 p1 hd hs ht).mono fun _ w' h=>⟨h.1.trans (congrArg Ending.returned ?_),h.2⟩
  rfl
 ·by_cases e:c.get s=c.get t
  ·refine (one_8t c.r0 c.r1 c.r2 c.r3 c.r4 c.r5 c.r6 c.r7 c.pc d s t u a k z self (c.get s) (c.get t) (c.get d) w d0 d1 s0 s1 t0 t1 p0 p1 hd hs ht (beq_iff_eq.mpr e)).mono fun _ w' h=>⟨h.1.trans (congrArg Ending.returned ?_),h.2⟩
   show _=(c.goto (next c ⟨8,d,s,t,u,a,k,z⟩)).val
   rw [show next c ⟨8,d,s,t,u,a,k,z⟩=z by simp [next,e]];rfl
  ·refine (one_8f c.r0 c.r1 c.r2 c.r3 c.r4 c.r5 c.r6 c.r7 c.pc d s t u a k z self (c.get s) (c.get t) (c.get d) w d0 d1 s0 s1 t0 t1 p0 p1 hd hs ht (beq_eq_false_iff_ne.mpr e)).mono fun _ w' h=>⟨h.1.trans (congrArg Ending.returned ?_),h.2⟩
   show _=(c.goto (next c ⟨8,d,s,t,u,a,k,z⟩)).val
   rw [show next c ⟨8,d,s,t,u,a,k,z⟩=c.pc+1 by simp [next,e]];rfl
 ·by_cases e:c.get s=c.get t
  ·refine (one_9f c.r0 c.r1 c.r2 c.r3 c.r4 c.r5 c.r6 c.r7 c.pc d s t u a k z self (c.get s) (c.get t) (c.get d) w d0 d1 s0 s1 t0 t1 p0 p1 hd hs ht (beq_iff_eq.mpr e)).mono fun _ w' h=>⟨h.1.trans (congrArg Ending.returned ?_),h.2⟩
   show _=(c.goto (next c ⟨9,d,s,t,u,a,k,z⟩)).val
   rw [show next c ⟨9,d,s,t,u,a,k,z⟩=c.pc+1 by simp [next,e]];rfl
  ·refine (one_9t c.r0 c.r1 c.r2 c.r3 c.r4 c.r5 c.r6 c.r7 c.pc d s t u a k z self (c.get s) (c.get t) (c.get d) w d0 d1 s0 s1 t0 t1 p0 p1 hd hs ht (beq_eq_false_iff_ne.mpr e)).mono fun _ w' h=>⟨h.1.trans (congrArg Ending.returned ?_),h.2⟩
   show _=(c.goto (next c ⟨9,d,s,t,u,a,k,z⟩)).val
   rw [show next c ⟨9,d,s,t,u,a,k,z⟩=z by simp [next,e]];rfl
 ·refine (one_10 c.r0 c.r1 c.r2 c.r3 c.r4 c.r5 c.r6 c.r7 c.pc d s t u a k z self (c.get s) (c.get t) (c.get d) w d0 d1 s0 s1 t0 t1 p0 p1 hd hs ht).mono fun _ w' h=>⟨h.1.trans (congrArg Ending.returned ?_),h.2⟩
  rfl
 ·refine (one_11 c.r0 c.r1 c.r2 c.r3 c.r4 c.r5 c.r6 c.r7 c.pc d s t u a k z self (c.get s) (c.get t) (c.get d) w d0 d1 s0 s1 t0 t1 p0 p1 hd hs ht f0 f1).mono fun _ w' h=>⟨h.1.trans (congrArg Ending.returned ?_),h.2⟩
  rfl
 ·refine (one_12 c.r0 c.r1 c.r2 c.r3 c.r4 c.r5 c.r6 c.r7 c.pc d s t u a k z self (c.get s) (c.get t) (c.get d) w d0 d1 s0 s1 t0 t1 p0 p1 hd hs ht).mono fun _ w' h=>⟨h.1.trans (congrArg Ending.returned ?_),h.2⟩
  rfl
 ·refine (one_13 c.r0 c.r1 c.r2 c.r3 c.r4 c.r5 c.r6 c.r7 c.pc d s t u a k z self w).mono fun _ w' h=>⟨h.1.trans (congrArg Ending.returned ?_),h.2⟩
  rfl
 ·refine (WK c.r0 c.r1 c.r2 c.r3 c.r4 c.r5 c.r6 c.r7 c.pc op d s t u a k z self w (decide_eq_true hm0) (decide_eq_true hm1)).mono fun _ w' h=>⟨h.1.trans (congrArg Ending.returned ?_),h.2⟩
  unfold step;rw [if_pos (.inl hm0)];rfl
def bJ (l:List dA) (i:Int):dA:=l.getD i.toNat eQ
theorem L0 {w:World} {A:Option Addr} {n:Nat} {xs:List dA} (h:Kd.C e9 w A n xs) (i:Int) (h0:0≤i) (h1:i<n):∃ ad,A=some ad∧w.cell? (ad.add (i.toNat*8))=some (.int .i64 (bJ xs i).op)∧w.cell? ⟨(ad.add (i.toNat*8)).block,(ad.add (i.toNat*8)).off+1,none⟩=some (.int .i64 (bJ xs i).d)∧w.cell? ⟨(ad.add (i.toNat*8)).block,(ad.add (i.toNat*8)).off+2,none⟩=some (.int .i64 (bJ xs i).s)∧w.cell? ⟨(ad.add (i.toNat*8)).block,(ad.add (i.toNat*8)).off+3,none⟩=some (.int .i64 (bJ xs i).t)∧w.cell? ⟨(ad.add (i.toNat*8)).block,(ad.add (i.toNat*8)).off+4,none⟩=some (.int .i64 (bJ xs i).u)∧w.cell? ⟨(ad.add (i.toNat*8)).block,(ad.add (i.toNat*8)).off+5,none⟩=some (.int .i64 (bJ xs i).a)∧w.cell? ⟨(ad.add (i.toNat*8)).block,(ad.add (i.toNat*8)).off+6,none⟩=some (.int .u32 (bJ xs i).k)∧w.cell? ⟨(ad.add (i.toNat*8)).block,(ad.add (i.toNat*8)).off+7,none⟩=some (.int .i64 (bJ xs i).to_):=by
 obtain ⟨ad,c,e,_,hK,hc0⟩:=Kd.L5 h eQ i h0 h1
 have hc:∀ j u,c[j]?=some u→w.cell? (ad.add (i.toNat*8+j))=some u:=hc0
 obtain rfl:=sN hK
 exact ⟨ad,e,hc 0 _ rfl,by rw [← dF _ _ 1 (by omega)];exact hc 1 _ rfl,by rw [← dF _ _ 2 (by omega)];exact hc 2 _ rfl,by rw [← dF _ _ 3 (by omega)];exact hc 3 _ rfl,by rw [← dF _ _ 4 (by omega)];exact hc 4 _ rfl,by rw [← dF _ _ 5 (by omega)];exact hc 5 _ rfl,by rw [← dF _ _ 6 (by omega)];exact hc 6 _ rfl,by rw [← dF _ _ 7 (by omega)];exact hc 7 _ rfl⟩
theorem CK (A B:Nat) (hA:A<4294967296) (hB:B<4294967296):Go.bits .and .u32 (A:Int) (B:Int)=((A&&& B:Nat):Int):=by
 have h:A&&& B<4294967296:=Nat.and_lt_two_pow A (n:=32) hB
 show IntKind.u32.wrap (((BitVec.ofInt 32 (A:Int)&&& BitVec.ofInt 32 (B:Int)).toNat:Nat):Int)=_
 rw [BitVec.toNat_and,BitVec.toNat_ofInt,BitVec.toNat_ofInt]
 have e1:(((A:Nat):Int) % (2 ^ 32:Nat)).toNat=A:=by omega
 have e2:(((B:Nat):Int) % (2 ^ 32:Nat)).toNat=B:=by omega
 rw [e1,e2,IntWalk.u32_in _ (by omega)]
theorem TP (A B:Nat) (hA:A<4294967296) (hB:B<4294967296):Go.bits .or .u32 (A:Int) (B:Int)=((A |||B:Nat):Int):=by
 have h:A |||B<4294967296:=Nat.or_lt_two_pow (n:=32) hA hB
 show IntKind.u32.wrap (((BitVec.ofInt 32 (A:Int) |||BitVec.ofInt 32 (B:Int)).toNat:Nat):Int)=_
 rw [BitVec.toNat_or,BitVec.toNat_ofInt,BitVec.toNat_ofInt]
 have e1:(((A:Nat):Int) % (2 ^ 32:Nat)).toNat=A:=by omega
 have e2:(((B:Nat):Int) % (2 ^ 32:Nat)).toNat=B:=by omega
 rw [e1,e2,IntWalk.u32_in _ (by omega)]
def p2 (n:Nat):Int:=((2 ^ n:Nat):Int)
theorem p2_pow (n:Nat):p2 n=2 ^ n:=by unfold p2;rw [Int.natCast_pow];rfl
def XY (W:World) (g:Nat) (x0 x1 x2 x3 x4 x5 x6 x7 x8:Value):World:=(((((((((W.setCell ⟨g,0,none⟩ x0).setCell ⟨g,1,none⟩ x1).setCell ⟨g,2,none⟩ x2).setCell ⟨g,3,none⟩ x3).setCell ⟨g,4,none⟩ x4).setCell ⟨g,5,none⟩ x5).setCell ⟨g,6,none⟩ x6).setCell ⟨g,7,none⟩ x7).setCell ⟨g,8,none⟩ x8)
theorem AQ {W:World} {g:Nat} {t:TypeId} {y0 y1 y2 y3 y4 y5 y6 y7 y8:Value} (h:W.heap[g]?=some (.cells #[y0,y1,y2,y3,y4,y5,y6,y7,y8] t (0,0))) (x0 x1 x2 x3 x4 x5 x6 x7 x8:Value):(XY W g x0 x1 x2 x3 x4 x5 x6 x7 x8).heap[g]?=some (.cells #[x0,x1,x2,x3,x4,x5,x6,x7,x8] t (0,0)):=
 by
 have h0:(W.setCell ⟨g,0,none⟩ x0).heap[g]?=some (.cells #[x0,y1,y2,y3,y4,y5,y6,y7,y8] t (0,0)):=kB h 0 x0 rfl
 have h1:((W.setCell ⟨g,0,none⟩ x0).setCell ⟨g,1,none⟩ x1).heap[g]?=some (.cells #[x0,x1,y2,y3,y4,y5,y6,y7,y8] t (0,0)):=kB h0 1 x1 rfl
 have h2:(((W.setCell ⟨g,0,none⟩ x0).setCell ⟨g,1,none⟩ x1).setCell ⟨g,2,none⟩ x2).heap[g]?=some (.cells #[x0,x1,x2,y3,y4,y5,y6,y7,y8] t (0,0)):=kB h1 2 x2 rfl
 have h3:((((W.setCell ⟨g,0,none⟩ x0).setCell ⟨g,1,none⟩ x1).setCell ⟨g,2,none⟩ x2).setCell ⟨g,3,none⟩ x3).heap[g]?=some (.cells #[x0,x1,x2,x3,y4,y5,y6,y7,y8] t (0,0)):=kB h2 3 x3 rfl
 have h4:(((((W.setCell ⟨g,0,none⟩ x0).setCell ⟨g,1,none⟩ x1).setCell ⟨g,2,none⟩ x2).setCell ⟨g,3,none⟩ x3).setCell ⟨g,4,none⟩ x4).heap[g]?=some (.cells #[x0,x1,x2,x3,x4,y5,y6,y7,y8] t (0,0)):=kB h3 4 x4 rfl
 have h5:((((((W.setCell ⟨g,0,none⟩ x0).setCell ⟨g,1,none⟩ x1).setCell ⟨g,2,none⟩ x2).setCell ⟨g,3,none⟩ x3).setCell ⟨g,4,none⟩ x4).setCell ⟨g,5,none⟩ x5).heap[g]?=some (.cells #[x0,x1,x2,x3,x4,x5,y6,y7,y8] t (0,0)):=kB h4 5 x5 rfl
 have h6:(((((((W.setCell ⟨g,0,none⟩ x0).setCell ⟨g,1,none⟩ x1).setCell ⟨g,2,none⟩ x2).setCell ⟨g,3,none⟩ x3).setCell ⟨g,4,none⟩ x4).setCell ⟨g,5,none⟩ x5).setCell ⟨g,6,none⟩ x6).heap[g]?=some (.cells #[x0,x1,x2,x3,x4,x5,x6,y7,y8] t (0,0)):=kB h5 6 x6 rfl
 have h7:((((((((W.setCell ⟨g,0,none⟩ x0).setCell ⟨g,1,none⟩ x1).setCell ⟨g,2,none⟩ x2).setCell ⟨g,3,none⟩ x3).setCell ⟨g,4,none⟩ x4).setCell ⟨g,5,none⟩ x5).setCell ⟨g,6,none⟩ x6).setCell ⟨g,7,none⟩ x7).heap[g]?=some (.cells #[x0,x1,x2,x3,x4,x5,x6,x7,y8] t (0,0)):=kB h6 7 x7 rfl
 have h8:(((((((((W.setCell ⟨g,0,none⟩ x0).setCell ⟨g,1,none⟩ x1).setCell ⟨g,2,none⟩ x2).setCell ⟨g,3,none⟩ x3).setCell ⟨g,4,none⟩ x4).setCell ⟨g,5,none⟩ x5).setCell ⟨g,6,none⟩ x6).setCell ⟨g,7,none⟩ x7).setCell ⟨g,8,none⟩ x8).heap[g]?=some (.cells #[x0,x1,x2,x3,x4,x5,x6,x7,x8] t (0,0)):=kB h7 8 x8 rfl
 exact h8
theorem qV {W:World} {g g':Nat} {t:TypeId} {cs:Array Value} (h:W.heap[g']?=some (.cells cs t (0,0))) (hne:g'≠g) (x0 x1 x2 x3 x4 x5 x6 x7 x8:Value):(XY W g x0 x1 x2 x3 x4 x5 x6 x7 x8).heap[g']?=some (.cells cs t (0,0)):=
 (bB (bB (bB (bB (bB (bB (bB (bB (bB h hne x0) hne x1) hne x2) hne x3) hne x4) hne x5) hne x6) hne x7) hne x8)
theorem gX {w W:World} {g:Nat} (h:Below w.heap.size w W) (hg:w.heap.size≤g) (x0 x1 x2 x3 x4 x5 x6 x7 x8:Value):Below w.heap.size w (XY W g x0 x1 x2 x3 x4 x5 x6 x7 x8):=
 (bM (v:=x8) (bM (v:=x7) (bM (v:=x6) (bM (v:=x5) (bM (v:=x4) (bM (v:=x3) (bM (v:=x2) (bM (v:=x1) (bM (v:=x0) h hg) hg) hg) hg) hg) hg) hg) hg) hg)
theorem qI {α:Type} {d:Kd α} {e:Nat} {W:World} {base:Nat} {ok:Nat→Prop} {v:Value} {xs:List α} {g:Nat} (h:d.R e W base ok v xs) (hok:∀ k,ok k→k≠g) (x0 x1 x2 x3 x4 x5 x6 x7 x8:Value):d.R e (XY W g x0 x1 x2 x3 x4 x5 x6 x7 x8) base ok v xs:=
 (Kd.oQ (p:=⟨g,8,none⟩) (Kd.oQ (p:=⟨g,7,none⟩) (Kd.oQ (p:=⟨g,6,none⟩) (Kd.oQ (p:=⟨g,5,none⟩) (Kd.oQ (p:=⟨g,4,none⟩) (Kd.oQ (p:=⟨g,3,none⟩) (Kd.oQ (p:=⟨g,2,none⟩) (Kd.oQ (p:=⟨g,1,none⟩) (Kd.oQ (p:=⟨g,0,none⟩) h hok x0) hok x1) hok x2) hok x3) hok x4) hok x5) hok x6) hok x7) hok x8)
theorem mM (w:World) (a b c:Obj):(((w.alloc a).alloc b).alloc c).heap[w.heap.size]?=some a∧(((w.alloc a).alloc b).alloc c).heap[w.heap.size+1]?=some b∧(((w.alloc a).alloc b).alloc c).heap[w.heap.size+1+1]?=some c:=by
 have s1:(w.alloc a).heap.size=w.heap.size+1:=by simp
 have s2:((w.alloc a).alloc b).heap.size=w.heap.size+1+1:=by simp
 refine ⟨aV (aV (bF w a) b) c,?_,?_⟩
 ·have:=aV (bF (w.alloc a) b) c
  rwa [s1] at this
 ·have:=bF ((w.alloc a).alloc b) c
  rwa [s2] at this
def go (l:List dA) (self:Int):Nat→Cr→List Int→Cr × List Int × Int × Int
 |0,c,ms=>if 0≤c.pc∧c.pc<l.length then (if 16≤(bJ l c.pc).op then (c,ms,-1,0) else (c,ms,-1,11)) else (c,ms,-1,11)
 |n+1,c,ms=>
  if 0≤c.pc∧c.pc<l.length then
   if 16≤(bJ l c.pc).op then (c,ms,-1,0)
   else if (bJ l c.pc).op=13 then (c,ms,(bJ l c.pc).k,0)
   else go l self n (step c (bJ l c.pc) self) (if (bJ l c.pc).op=12 then ms++ [(bJ l c.pc).k] else ms)
  else (c,ms,-1,11)
theorem go_out (l:List dA) (self:Int) (n:Nat) (c:Cr) (ms:List Int) (h:¬ (0≤c.pc∧c.pc<l.length)):go l self n c ms=(c,ms,-1,11):=by
 cases n <;> (unfold go;rw [if_neg h])
theorem JQ (l:List dA) (self:Int) (n:Nat) (c:Cr) (ms:List Int) (h:0≤c.pc∧c.pc<l.length) (hm:16≤(bJ l c.pc).op):go l self n c ms=(c,ms,-1,0):=by
 cases n <;> (unfold go;rw [if_pos h,if_pos hm])
theorem VV (l:List dA) (self:Int) (c:Cr) (ms:List Int) (h:0≤c.pc∧c.pc<l.length) (hm:¬ 16≤(bJ l c.pc).op):go l self 0 c ms=(c,ms,-1,11):=by
 unfold go;rw [if_pos h,if_neg hm]
theorem K1 (l:List dA) (self:Int) (n:Nat) (c:Cr) (ms:List Int) (h:0≤c.pc∧c.pc<l.length) (hd:(bJ l c.pc).op=13):go l self (n+1) c ms=(c,ms,(bJ l c.pc).k,0):=by
 unfold go;rw [if_pos h,if_neg (by omega),if_pos hd]
theorem LA (l:List dA) (self:Int) (n:Nat) (c:Cr) (ms:List Int) (h:0≤c.pc∧c.pc<l.length) (hd:(bJ l c.pc).op=12):go l self (n+1) c ms=go l self n (step c (bJ l c.pc) self) (ms++ [(bJ l c.pc).k]):=by
 conv=>lhs;unfold go
 rw [if_pos h,if_neg (by omega),if_neg (by omega),if_pos hd]
theorem Z0 (l:List dA) (self:Int) (n:Nat) (c:Cr) (ms:List Int) (h:0≤c.pc∧c.pc<l.length) (hm:¬ 16≤(bJ l c.pc).op) (hd:¬ (bJ l c.pc).op=13) (hk:¬ (bJ l c.pc).op=12):go l self (n+1) c ms=go l self n (step c (bJ l c.pc) self) ms:=by
 conv=>lhs;unfold go
 rw [if_pos h,if_neg hm,if_neg hd,if_neg hk]
def XU (val:Cr→Value) (r:Cr × List Int × Int × Int) (w:World) (e:Ending) (w':World):Prop:=
 ∃ v,e= .returned (.tuple #[val r.1,v,.int .i64 r.2.2.1,.int .i64 r.2.2.2])∧Kd.R (Kd.int .i64) 3 w' w.heap.size (fun _=>True) v r.2.1∧Below w.heap.size w w'
theorem iZ {l:List dA} {i:Int} (h0:0≤i) (h1:i<l.length):bJ l i∈l:=by
 unfold bJ
 have:i.toNat<l.length:=by omega
 rw [List.getD_eq_getElem?_getD,List.getElem?_eq_getElem this]
 exact List.getElem_mem this
theorem C9 {c:Cr} (h:c.ok) {i:dA} (hi:okI i) {self:Int} (f0:0≤self) (f1:self<64):(step c i self).ok:=by
 obtain ⟨s0,s1⟩:=Cr.mO h i.s
 obtain ⟨t0,t1⟩:=Cr.mO h i.t
 have hw:∀ v,writes c i self=some v→0≤v∧v<4294967296:=by
  intro v hv
  unfold writes at hv
  split at hv
  ·cases hv;exact hi.k
  split at hv
  ·cases hv;exact ⟨s0,s1⟩
  split at hv
  ·cases hv;omega
  split at hv
  ·cases hv
   obtain ⟨A,hA⟩:=Int.eq_ofNat_of_zero_le s0
   obtain ⟨B,hB⟩:=Int.eq_ofNat_of_zero_le hi.k.1
   have hk:=hi.k
   rw [hA,hB,CK A B (by omega) (by omega)]
   have:=Nat.and_lt_two_pow A (n:=32) (show B<2 ^ 32 by omega)
   omega
  split at hv
  ·cases hv;omega
  split at hv
  ·cases hv
   have hp:(0:Int)<2 ^ i.k.toNat:=by rw [← p2_pow];unfold p2;have:=Nat.pow_pos (n:=i.k.toNat) (show 0<2 by decide);omega
   exact ⟨Int.ediv_nonneg s0 (by omega),Int.lt_of_le_of_lt (Int.ediv_le_self _ s0) s1⟩
  split at hv
  ·cases hv
   obtain ⟨A,hA⟩:=Int.eq_ofNat_of_zero_le s0
   obtain ⟨B,hB⟩:=Int.eq_ofNat_of_zero_le t0
   rw [hA,hB,TP A B (by omega) (by omega)]
   have:=Nat.or_lt_two_pow (n:=32) (show A<2 ^ 32 by omega) (show B<2 ^ 32 by omega)
   omega
  split at hv
  ·cases hv;omega
  ·cases hv
 unfold step
 split
 ·exact h
 ·split
  ·rename_i v hv
   obtain ⟨v0,v1⟩:=hw v hv
   exact Cr.gU (Cr.lC h _ v v0 v1) _
  ·exact Cr.gU h _
theorem OA (c0:Cr) (hc0:c0.ok) (self:Int) (f0:0≤self) (f1:self<64) (A:Option Addr) (cap:Nat) (l:List dA) (lk ul:Int) (w:World) (hl:Kd.C e9 w A l.length l) (hcap:l.length≤cap) (hn:l.length≤64) (hi:∀ i∈l,okI i)
  (r:Cr × List Int × Int × Int) (hr:go l self 256 c0 []=r):
  Calls Tryz.prog 188 #[c0.val,.agg #[.slice A l.length cap,.int .i64 lk,.int .i64 ul],.int .i64 self] w (XU Cr.val r w):=by
 have HL:=aA.mk hl
 have HI:=aA.mk hi
 have HR:=aA.mk hr
 have HO0:=aA.mk hc0
 clear hl hi hr hc0
 show Calls Tryz.prog 188 #[.agg #[.int .u32 c0.r0,.int .u32 c0.r1,.int .u32 c0.r2,.int .u32 c0.r3,.int .u32 c0.r4,.int .u32 c0.r5,.int .u32 c0.r6,.int .u32 c0.r7,.int .i64 c0.pc],.agg #[.slice A l.length cap,.int .i64 lk,.int .i64 ul],.int .i64 self] w _
 go_enter Tryz.func188,Tryz.ntmps188
 go_wp2
 go_loopg [7,10] 257 (fun kq v i wr=>∃ (c:Cr) (ms:List Int) (k:Nat),i= .int .i64 k∧aA (kq+k=257∧k≤256)∧aA (c.ok)∧aA (go l self (256 - k) c ms=r)∧aA (ms.length≤k)∧aA (Kd.R (Kd.int .i64) 3 wr w.heap.size (fun b=>b≠w.heap.size∧b≠w.heap.size+1∧b≠w.heap.size+1+1) v ms)∧aA (Below w.heap.size w wr)∧aA (wr.heap[w.heap.size]?=some (.cells #[.int .u32 c.r0,.int .u32 c.r1,.int .u32 c.r2,.int .u32 c.r3,.int .u32 c.r4,.int .u32 c.r5,.int .u32 c.r6,.int .u32 c.r7,.int .i64 c.pc] 192 (0,0)))∧aA (wr.heap[w.heap.size+1]?=some (.cells #[.slice A l.length cap,.int .i64 lk,.int .i64 ul] 112 (0,0)))∧aA (wr.heap[w.heap.size+1+1]?=some (.cells #[.int .u32 0,.int .u32 0,.int .u32 0,.int .u32 0,.int .u32 0,.int .u32 0,.int .u32 0,.int .u32 0,.int .i64 0] 192 (0,0))))
 case atStart=>exact ⟨c0,[],0,rfl,⟨⟨rfl,by omega⟩⟩,HO0,HR,⟨Nat.le_refl _⟩,⟨Kd.lA _ _ _ _ _⟩,⟨by repeat (first|exact Below.refl _ _|apply aD)⟩,⟨(mM w _ _ _).1⟩,⟨(mM w _ _ _).2.1⟩,⟨(mM w _ _ _).2.2⟩⟩
 case round=>
  obtain ⟨c,ms,k,rfl,HK,HC,HG,HN,HM,HB,B0,B1,B2⟩:=hrel
  have k1:(k:Int)≤256:=by have:=HK.out.2;omega
  have a0:wr.cell? ⟨w.heap.size,0,none⟩=some (.int .u32 c.r0):=(aC B0.out 0).trans rfl
  have a1:wr.cell? ⟨w.heap.size,1,none⟩=some (.int .u32 c.r1):=(aC B0.out 1).trans rfl
  have a2:wr.cell? ⟨w.heap.size,2,none⟩=some (.int .u32 c.r2):=(aC B0.out 2).trans rfl
  have a3:wr.cell? ⟨w.heap.size,3,none⟩=some (.int .u32 c.r3):=(aC B0.out 3).trans rfl
  have a4:wr.cell? ⟨w.heap.size,4,none⟩=some (.int .u32 c.r4):=(aC B0.out 4).trans rfl
  have a5:wr.cell? ⟨w.heap.size,5,none⟩=some (.int .u32 c.r5):=(aC B0.out 5).trans rfl
  have a6:wr.cell? ⟨w.heap.size,6,none⟩=some (.int .u32 c.r6):=(aC B0.out 6).trans rfl
  have a7:wr.cell? ⟨w.heap.size,7,none⟩=some (.int .u32 c.r7):=(aC B0.out 7).trans rfl
  have a8:wr.cell? ⟨w.heap.size,8,none⟩=some (.int .i64 c.pc):=(aC B0.out 8).trans rfl
  have b0:wr.cell? ⟨w.heap.size+1,0,none⟩=some (.slice A l.length cap):=(aC B1.out 0).trans rfl
  have e0:wr.cell? ⟨w.heap.size+1+1,0,none⟩=some (.int .u32 0):=(aC B2.out 0).trans rfl
  have ef0:=aG B2.out 0
  have e1:wr.cell? ⟨w.heap.size+1+1,1,none⟩=some (.int .u32 0):=(aC B2.out 1).trans rfl
  have ef1:=aG B2.out 1
  have e2:wr.cell? ⟨w.heap.size+1+1,2,none⟩=some (.int .u32 0):=(aC B2.out 2).trans rfl
  have ef2:=aG B2.out 2
  have e3:wr.cell? ⟨w.heap.size+1+1,3,none⟩=some (.int .u32 0):=(aC B2.out 3).trans rfl
  have ef3:=aG B2.out 3
  have e4:wr.cell? ⟨w.heap.size+1+1,4,none⟩=some (.int .u32 0):=(aC B2.out 4).trans rfl
  have ef4:=aG B2.out 4
  have e5:wr.cell? ⟨w.heap.size+1+1,5,none⟩=some (.int .u32 0):=(aC B2.out 5).trans rfl
  have ef5:=aG B2.out 5
  have e6:wr.cell? ⟨w.heap.size+1+1,6,none⟩=some (.int .u32 0):=(aC B2.out 6).trans rfl
  have ef6:=aG B2.out 6
  have e7:wr.cell? ⟨w.heap.size+1+1,7,none⟩=some (.int .u32 0):=(aC B2.out 7).trans rfl
  have ef7:=aG B2.out 7
  have e8:wr.cell? ⟨w.heap.size+1+1,8,none⟩=some (.int .i64 0):=(aC B2.out 8).trans rfl
  have ef8:=aG B2.out 8
  have z2:w.heap.size+1+1<wr.heap.size:=aZ B2.out
  have z1:w.heap.size+1<wr.heap.size:=by omega
  have z0:w.heap.size<wr.heap.size:=by omega
  have z2':w.heap.size+1+1<wr.heap.size+1:=by omega
  have z1':w.heap.size+1<wr.heap.size+1:=by omega
  have z0':w.heap.size<wr.heap.size+1:=by omega
  by_cases h0:0≤c.pc∧c.pc<l.length
  ·have HH:=aA.mk h0
   have t1:decide (0≤c.pc)=true:=decide_eq_true h0.1
   have t2:decide (c.pc<(l.length:Int))=true:=decide_eq_true h0.2
   obtain ⟨ad,ead,x0,x1,x2,x3,x4,x5,x6,x7⟩:=L0 HL.out c.pc h0.1 h0.2
   cases ead
   replace x0:=(HB.out.cell (World.block_lt_of_cell? w _ x0)).trans x0
   replace x1:=(HB.out.cell (World.block_lt_of_cell? w _ x1)).trans x1
   replace x2:=(HB.out.cell (World.block_lt_of_cell? w _ x2)).trans x2
   replace x3:=(HB.out.cell (World.block_lt_of_cell? w _ x3)).trans x3
   replace x4:=(HB.out.cell (World.block_lt_of_cell? w _ x4)).trans x4
   replace x5:=(HB.out.cell (World.block_lt_of_cell? w _ x5)).trans x5
   replace x6:=(HB.out.cell (World.block_lt_of_cell? w _ x6)).trans x6
   replace x7:=(HB.out.cell (World.block_lt_of_cell? w _ x7)).trans x7
   have q1:=eq_true h0.1
   have q2:=eq_true h0.2
   have hokI:=HI.out _ (iZ h0.1 h0.2)
   clear h0
   obtain ⟨i,hid⟩:∃ i,bJ l c.pc=i:=⟨_,rfl⟩
   rw [hid] at x0 x1 x2 x3 x4 x5 x6 x7 hokI
   have HID:=aA.mk hid
   have HOI:=aA.mk hokI
   have g0:=hokI.k.1
   have g1:=hokI.k.2
   have og:=hokI.op
   clear hid hokI
   by_cases hm:16≤i.op
   ·have HF:aA ((c,ms,(-1:Int),(0:Int))=r):=⟨(JQ l self (256 - k) c ms HH.out (by rw [HID.out];exact hm)).symm.trans HG.out⟩
    have m0:decide (16≤i.op)=true:=decide_eq_true hm
    have m1:decide (i.op≤23)=true:=decide_eq_true (by omega)
    clear hm og
    go_wp2_with (first|(go_at_call 123;refine (K8 i.op i.d i.s i.t i.u i.a i.k i.to_ _ m0 m1).mono ?_;rintro e w1 ⟨rfl,rfl⟩))
    refine bodyPost_ret (v:= .tuple #[.agg #[.int .u32 c.r0,.int .u32 c.r1,.int .u32 c.r2,.int .u32 c.r3,.int .u32 c.r4,.int .u32 c.r5,.int .u32 c.r6,.int .u32 c.r7,.int .i64 c.pc],u7,.int .i64 (-1),.int .i64 (0)]) (by simp [results,Tryz.results188,go_sem, *]) rfl ⟨_,by rw [← HF.out];rfl,?_,?_⟩
    ·rw [← HF.out];(with_reducible repeat (first|apply Kd.cO|apply Kd.eX|apply Kd.iI));exact Kd.fB (qI (g:=w.heap.size+1+1) (by (with_reducible repeat (first|apply Kd.cO|apply Kd.eX|apply Kd.iI));exact HM.out) (fun (b:Nat) (hb:b≠w.heap.size∧b≠w.heap.size+1∧b≠w.heap.size+1+1)=>hb.2.2) _ _ _ _ _ _ _ _ _) (fun _ _=>trivial)
    ·(repeat (first|(with_reducible apply aD)|(with_reducible apply aH)|(with_reducible apply jO)));exact gX (g:=w.heap.size+1+1) (by repeat (first|exact HB.out|apply aD|apply aH)) (by omega) _ _ _ _ _ _ _ _ _
   ·have m0:decide (16≤i.op)=false:=decide_eq_false hm
    by_cases hk:k=256
    ·have HF:aA ((c,ms,(-1:Int),(11:Int))=r):=⟨by have h2:=HG.out;rw [hk,Nat.sub_self,VV l self c ms HH.out (by rw [HID.out];exact hm)] at h2;exact h2⟩
     have n0:((k:Int)==256)=true:=beq_iff_eq.mpr (by omega)
     clear hm og hk
     go_wp2_with (first|(go_at_call 123;refine (fG i.op i.d i.s i.t i.u i.a i.k i.to_ _ m0).mono ?_;rintro e w1 ⟨rfl,rfl⟩))
     refine bodyPost_ret (v:= .tuple #[.agg #[.int .u32 c.r0,.int .u32 c.r1,.int .u32 c.r2,.int .u32 c.r3,.int .u32 c.r4,.int .u32 c.r5,.int .u32 c.r6,.int .u32 c.r7,.int .i64 c.pc],u7,.int .i64 (-1),.int .i64 (11)]) (by simp [results,Tryz.results188,go_sem, *]) rfl ⟨_,by rw [← HF.out];rfl,?_,?_⟩
     ·rw [← HF.out];(with_reducible repeat (first|apply Kd.cO|apply Kd.eX|apply Kd.iI));exact Kd.fB (qI (g:=w.heap.size+1+1) (by (with_reducible repeat (first|apply Kd.cO|apply Kd.eX|apply Kd.iI));exact HM.out) (fun (b:Nat) (hb:b≠w.heap.size∧b≠w.heap.size+1∧b≠w.heap.size+1+1)=>hb.2.2) _ _ _ _ _ _ _ _ _) (fun _ _=>trivial)
     ·(repeat (first|(with_reducible apply aD)|(with_reducible apply aH)|(with_reducible apply jO)));exact gX (g:=w.heap.size+1+1) (by repeat (first|exact HB.out|apply aD|apply aH)) (by omega) _ _ _ _ _ _ _ _ _
    ·have n0:((k:Int)==256)=false:=beq_eq_false_iff_ne.mpr (by omega)
     obtain ⟨n,hn2⟩:∃ n,256 - k=n+1:=⟨255 - k,by have:=HK.out;omega⟩
     have HG2:aA (go l self (n+1) c ms=r∧256 - (k+1)=n∧k+1≤256):=⟨by rw [← hn2];exact HG.out,by omega,by have:=HK.out;omega⟩
     clear hk hn2
     by_cases hd:i.op=13
     ·have HF:aA ((c,ms,i.k,(0:Int))=r):=⟨by have h2:=HG2.out.1;rw [K1 l self n c ms HH.out (by rw [HID.out];exact hd),HID.out] at h2;exact h2⟩
      have d0:(i.op==13)=true:=beq_iff_eq.mpr hd
      clear hm og hd
      go_wp2_with (first|(go_at_call 123;refine (fG i.op i.d i.s i.t i.u i.a i.k i.to_ _ m0).mono ?_;rintro e w1 ⟨rfl,rfl⟩))
      go_region
      all_goals go_wp2
      all_goals (
       refine bodyPost_ret (v:= .tuple #[.agg #[.int .u32 c.r0,.int .u32 c.r1,.int .u32 c.r2,.int .u32 c.r3,.int .u32 c.r4,.int .u32 c.r5,.int .u32 c.r6,.int .u32 c.r7,.int .i64 c.pc],u7,.int .i64 (i.k),.int .i64 (0)]) (by simp [results,Tryz.results188,go_sem, *]) rfl ⟨_,by rw [← HF.out];rfl,?_,?_⟩
       ·rw [← HF.out];(with_reducible repeat (first|apply Kd.cO|apply Kd.eX|apply Kd.iI));exact Kd.fB (qI (g:=w.heap.size+1+1) (by (with_reducible repeat (first|apply Kd.cO|apply Kd.eX|apply Kd.iI));exact HM.out) (fun (b:Nat) (hb:b≠w.heap.size∧b≠w.heap.size+1∧b≠w.heap.size+1+1)=>hb.2.2) _ _ _ _ _ _ _ _ _) (fun _ _=>trivial)
       ·(repeat (first|(with_reducible apply aD)|(with_reducible apply aH)|(with_reducible apply jO)));exact gX (g:=w.heap.size+1+1) (by repeat (first|exact HB.out|apply aD|apply aH)) (by omega) _ _ _ _ _ _ _ _ _)
     ·by_cases hq:i.op=12
      ·have d0:(i.op==13)=false:=beq_eq_false_iff_ne.mpr hd
       have HNX:aA (go l self n (step c i self) (ms++ [i.k])=r):=⟨by have h2:=HG2.out.1;rw [LA l self n c ms HH.out (by rw [HID.out];exact hq),HID.out] at h2;exact h2⟩
       have e0:(i.op==12)=true:=beq_iff_eq.mpr hq
       clear hm og hd hq
       have P:=aA.mk (fun W=>(zU c i self W HC.out (by have:=HH.out;omega) (by have:=HH.out;omega) HOI.out f0 f1))
       go_wp2_with (first|(go_at_call 123;refine (fG i.op i.d i.s i.t i.u i.a i.k i.to_ _ m0).mono ?_;rintro e w1 ⟨rfl,rfl⟩)|((with_reducible refine dT (b:= .append) (xs:=#[.tmp 54,.tmp 58]) rfl ?_);at_builtin;refine Kd.kR (Kd.int .i64) (w0:=w) w.heap.size rfl (.tmp 54) (.tmp 58) 32 3 (.int .i64 0) 8 rfl Tryz.underlying32 L7 rfl (by decide) (by omega) u7 ms i.k [.int .i64 i.k] (fun b=>b≠w.heap.size∧b≠w.heap.size+1∧b≠w.heap.size+1+1) (fun _=>False) rfl (by first|(go_simp;done)|(go_simp;rfl)) ?aP (fun _ hk=>hk.elim) ?aF ?aO ?aB ?aS ?aL ?_;(case aP=>exact rfl);(case aF=>intro b hb2;simp at hb2;omega);(case aO=>exact (by (with_reducible repeat (first|apply Kd.cO));exact HM.out));(case aB=>exact (by repeat (first|exact HB.out|apply aD)));(case aS=>simp;omega);(case aL=>have:=HN.out;have:=HK.out;omega);intro v105 w8 ho hb hg hat;have HM2:=aA.mk ho;have HB2:=aA.mk hb;have B0a:=aA.mk (gA ((aV (aV B0.out _) _)) hg (fun e=>(HM.out.1 _ e.symm).1 rfl));have B1a:=aA.mk (gA ((aV (aV B1.out _) _)) hg (fun e=>(HM.out.1 _ e.symm).2.1 rfl));have B2a:=aA.mk (gA ((aV (aV B2.out _) _)) hg (fun e=>(HM.out.1 _ e.symm).2.2 rfl));have BIa:=aA.mk (gA ((aV (bF wr (.cells #[.int .i64 i.op,.int .i64 i.d,.int .i64 i.s,.int .i64 i.t,.int .i64 i.u,.int .i64 i.a,.int .u32 i.k,.int .i64 i.to_] 214)) _)) hg (fun e=>absurd ((Kd.eW HM.out).1 _ e.symm).2.2.1 (Nat.lt_irrefl _)));clear ho hb hg hat;have y0:w8.cell? ⟨w.heap.size,0,none⟩=some (.int .u32 c.r0):=(aC B0a.out 0).trans rfl;have y1:w8.cell? ⟨w.heap.size,1,none⟩=some (.int .u32 c.r1):=(aC B0a.out 1).trans rfl;have y2:w8.cell? ⟨w.heap.size,2,none⟩=some (.int .u32 c.r2):=(aC B0a.out 2).trans rfl;have y3:w8.cell? ⟨w.heap.size,3,none⟩=some (.int .u32 c.r3):=(aC B0a.out 3).trans rfl;have y4:w8.cell? ⟨w.heap.size,4,none⟩=some (.int .u32 c.r4):=(aC B0a.out 4).trans rfl;have y5:w8.cell? ⟨w.heap.size,5,none⟩=some (.int .u32 c.r5):=(aC B0a.out 5).trans rfl;have y6:w8.cell? ⟨w.heap.size,6,none⟩=some (.int .u32 c.r6):=(aC B0a.out 6).trans rfl;have y7:w8.cell? ⟨w.heap.size,7,none⟩=some (.int .u32 c.r7):=(aC B0a.out 7).trans rfl;have y8:w8.cell? ⟨w.heap.size,8,none⟩=some (.int .i64 c.pc):=(aC B0a.out 8).trans rfl;have u0':w8.cell? ⟨wr.heap.size,0,none⟩=some (.int .i64 i.op):=(aC BIa.out 0).trans rfl;have u1':w8.cell? ⟨wr.heap.size,1,none⟩=some (.int .i64 i.d):=(aC BIa.out 1).trans rfl;have u2':w8.cell? ⟨wr.heap.size,2,none⟩=some (.int .i64 i.s):=(aC BIa.out 2).trans rfl;have u3':w8.cell? ⟨wr.heap.size,3,none⟩=some (.int .i64 i.t):=(aC BIa.out 3).trans rfl;have u4':w8.cell? ⟨wr.heap.size,4,none⟩=some (.int .i64 i.u):=(aC BIa.out 4).trans rfl;have u5':w8.cell? ⟨wr.heap.size,5,none⟩=some (.int .i64 i.a):=(aC BIa.out 5).trans rfl;have u6':w8.cell? ⟨wr.heap.size,6,none⟩=some (.int .u32 i.k):=(aC BIa.out 6).trans rfl;have u7':w8.cell? ⟨wr.heap.size,7,none⟩=some (.int .i64 i.to_):=(aC BIa.out 7).trans rfl)|(go_at_call 221;refine (P.out _).mono ?_;rintro e w9 ⟨rfl,hb⟩;obtain ⟨c',hc'⟩:∃ c',c'=step c i self:=⟨_,rfl⟩;rw [← hc'];have HC':=aA.mk hc';clear hc';unfold Cr.val;have B0b:=aE B0a.out hb;have B1b:=aE B1a.out hb;have B2b:=aE B2a.out hb;have HM3:=aA.mk (Kd.pA HM2.out hb);have HB3:=aA.mk (bA HB2.out hb);have v0:w9.cell? ⟨w.heap.size,0,none⟩=some (.int .u32 c.r0):=(aC B0b 0).trans rfl;have vf0:=aG B0b 0;have v1:w9.cell? ⟨w.heap.size,1,none⟩=some (.int .u32 c.r1):=(aC B0b 1).trans rfl;have vf1:=aG B0b 1;have v2:w9.cell? ⟨w.heap.size,2,none⟩=some (.int .u32 c.r2):=(aC B0b 2).trans rfl;have vf2:=aG B0b 2;have v3:w9.cell? ⟨w.heap.size,3,none⟩=some (.int .u32 c.r3):=(aC B0b 3).trans rfl;have vf3:=aG B0b 3;have v4:w9.cell? ⟨w.heap.size,4,none⟩=some (.int .u32 c.r4):=(aC B0b 4).trans rfl;have vf4:=aG B0b 4;have v5:w9.cell? ⟨w.heap.size,5,none⟩=some (.int .u32 c.r5):=(aC B0b 5).trans rfl;have vf5:=aG B0b 5;have v6:w9.cell? ⟨w.heap.size,6,none⟩=some (.int .u32 c.r6):=(aC B0b 6).trans rfl;have vf6:=aG B0b 6;have v7:w9.cell? ⟨w.heap.size,7,none⟩=some (.int .u32 c.r7):=(aC B0b 7).trans rfl;have vf7:=aG B0b 7;have v8:w9.cell? ⟨w.heap.size,8,none⟩=some (.int .i64 c.pc):=(aC B0b 8).trans rfl;have vf8:=aG B0b 8;have B0c:=aA.mk B0b;have B1c:=aA.mk B1b;have B2c:=aA.mk B2b;clear B0b B1b B2b hb))
       go_roundg (256 - k)
       case measure=>have:=HK.out;have:=HG2.out;omega
       case rel=>exact ⟨c',(ms++ [i.k]),k+1,by go_num,⟨by have:=HK.out;have:=HG2.out;omega⟩,⟨by rw [HC'.out];exact C9 HC.out HOI.out f0 f1⟩,⟨by rw [HC'.out,HG2.out.2.1];exact HNX.out⟩,⟨by have:=HN.out;first|(rw [List.length_append,List.length_singleton];omega)|omega⟩,⟨qI (g:=w.heap.size) HM3.out (fun (b:Nat) (hb:b≠w.heap.size∧b≠w.heap.size+1∧b≠w.heap.size+1+1)=>hb.1) _ _ _ _ _ _ _ _ _⟩,⟨gX (g:=w.heap.size) HB3.out (Nat.le_refl _) _ _ _ _ _ _ _ _ _⟩,⟨AQ B0c.out _ _ _ _ _ _ _ _ _⟩,⟨qV B1c.out (by omega) _ _ _ _ _ _ _ _ _⟩,⟨qV B2c.out (by omega) _ _ _ _ _ _ _ _ _⟩⟩
      ·have d0:(i.op==13)=false:=beq_eq_false_iff_ne.mpr hd
       have HNX:aA (go l self n (step c i self) ms=r):=⟨by have h2:=HG2.out.1;rw [Z0 l self n c ms HH.out (by rw [HID.out];exact hm) (by rw [HID.out];exact hd) (by rw [HID.out];exact hq),HID.out] at h2;exact h2⟩
       have e0:(i.op==12)=false:=beq_eq_false_iff_ne.mpr hq
       clear hm og hd hq
       have P:=aA.mk (fun W=>(zU c i self W HC.out (by have:=HH.out;omega) (by have:=HH.out;omega) HOI.out f0 f1))
       go_wp2_with (first|(go_at_call 123;refine (fG i.op i.d i.s i.t i.u i.a i.k i.to_ _ m0).mono ?_;rintro e w1 ⟨rfl,rfl⟩)|(go_at_call 221;refine (P.out _).mono ?_;rintro e w9 ⟨rfl,hb⟩;obtain ⟨c',hc'⟩:∃ c',c'=step c i self:=⟨_,rfl⟩;rw [← hc'];have HC':=aA.mk hc';clear hc';unfold Cr.val;have B0b:=aE ((aV (aV B0.out _) _)) hb;have B1b:=aE ((aV (aV B1.out _) _)) hb;have B2b:=aE ((aV (aV B2.out _) _)) hb;have HM3:=aA.mk (Kd.pA (by (with_reducible repeat (first|apply Kd.cO));exact HM.out) hb);have HB3:=aA.mk (bA (by repeat (first|exact HB.out|apply aD)) hb);have v0:w9.cell? ⟨w.heap.size,0,none⟩=some (.int .u32 c.r0):=(aC B0b 0).trans rfl;have vf0:=aG B0b 0;have v1:w9.cell? ⟨w.heap.size,1,none⟩=some (.int .u32 c.r1):=(aC B0b 1).trans rfl;have vf1:=aG B0b 1;have v2:w9.cell? ⟨w.heap.size,2,none⟩=some (.int .u32 c.r2):=(aC B0b 2).trans rfl;have vf2:=aG B0b 2;have v3:w9.cell? ⟨w.heap.size,3,none⟩=some (.int .u32 c.r3):=(aC B0b 3).trans rfl;have vf3:=aG B0b 3;have v4:w9.cell? ⟨w.heap.size,4,none⟩=some (.int .u32 c.r4):=(aC B0b 4).trans rfl;have vf4:=aG B0b 4;have v5:w9.cell? ⟨w.heap.size,5,none⟩=some (.int .u32 c.r5):=(aC B0b 5).trans rfl;have vf5:=aG B0b 5;have v6:w9.cell? ⟨w.heap.size,6,none⟩=some (.int .u32 c.r6):=(aC B0b 6).trans rfl;have vf6:=aG B0b 6;have v7:w9.cell? ⟨w.heap.size,7,none⟩=some (.int .u32 c.r7):=(aC B0b 7).trans rfl;have vf7:=aG B0b 7;have v8:w9.cell? ⟨w.heap.size,8,none⟩=some (.int .i64 c.pc):=(aC B0b 8).trans rfl;have vf8:=aG B0b 8;have B0c:=aA.mk B0b;have B1c:=aA.mk B1b;have B2c:=aA.mk B2b;clear B0b B1b B2b hb))
       go_roundg (256 - k)
       case measure=>have:=HK.out;have:=HG2.out;omega
       case rel=>exact ⟨c',ms,k+1,by go_num,⟨by have:=HK.out;have:=HG2.out;omega⟩,⟨by rw [HC'.out];exact C9 HC.out HOI.out f0 f1⟩,⟨by rw [HC'.out,HG2.out.2.1];exact HNX.out⟩,⟨by have:=HN.out;first|(rw [List.length_append,List.length_singleton];omega)|omega⟩,⟨qI (g:=w.heap.size) HM3.out (fun (b:Nat) (hb:b≠w.heap.size∧b≠w.heap.size+1∧b≠w.heap.size+1+1)=>hb.1) _ _ _ _ _ _ _ _ _⟩,⟨gX (g:=w.heap.size) HB3.out (Nat.le_refl _) _ _ _ _ _ _ _ _ _⟩,⟨AQ B0c.out _ _ _ _ _ _ _ _ _⟩,⟨qV B1c.out (by omega) _ _ _ _ _ _ _ _ _⟩,⟨qV B2c.out (by omega) _ _ _ _ _ _ _ _ _⟩⟩
  ·have HF:aA ((c,ms,(-1:Int),(11:Int))=r):=⟨(go_out l self (256 - k) c ms h0).symm.trans HG.out⟩
   by_cases hp:0≤c.pc
   ·have t1:decide (0≤c.pc)=true:=decide_eq_true hp
    have t2:decide (c.pc<(l.length:Int))=false:=decide_eq_false (by omega)
    clear h0 hp
    go_wp2
    refine bodyPost_ret (v:= .tuple #[.agg #[.int .u32 c.r0,.int .u32 c.r1,.int .u32 c.r2,.int .u32 c.r3,.int .u32 c.r4,.int .u32 c.r5,.int .u32 c.r6,.int .u32 c.r7,.int .i64 c.pc],u7,.int .i64 (-1),.int .i64 (11)]) (by simp [results,Tryz.results188,go_sem, *]) rfl ⟨_,by rw [← HF.out];rfl,?_,?_⟩
    ·rw [← HF.out];(with_reducible repeat (first|apply Kd.cO|apply Kd.eX|apply Kd.iI));exact Kd.fB (qI (g:=w.heap.size+1+1) (by (with_reducible repeat (first|apply Kd.cO|apply Kd.eX|apply Kd.iI));exact HM.out) (fun (b:Nat) (hb:b≠w.heap.size∧b≠w.heap.size+1∧b≠w.heap.size+1+1)=>hb.2.2) _ _ _ _ _ _ _ _ _) (fun _ _=>trivial)
    ·(repeat (first|(with_reducible apply aD)|(with_reducible apply aH)|(with_reducible apply jO)));exact gX (g:=w.heap.size+1+1) (by repeat (first|exact HB.out|apply aD|apply aH)) (by omega) _ _ _ _ _ _ _ _ _
   ·have t1:decide (0≤c.pc)=false:=decide_eq_false hp
    clear h0 hp
    go_wp2
    refine bodyPost_ret (v:= .tuple #[.agg #[.int .u32 c.r0,.int .u32 c.r1,.int .u32 c.r2,.int .u32 c.r3,.int .u32 c.r4,.int .u32 c.r5,.int .u32 c.r6,.int .u32 c.r7,.int .i64 c.pc],u7,.int .i64 (-1),.int .i64 (11)]) (by simp [results,Tryz.results188,go_sem, *]) rfl ⟨_,by rw [← HF.out];rfl,?_,?_⟩
    ·rw [← HF.out];(with_reducible repeat (first|apply Kd.cO|apply Kd.eX|apply Kd.iI));exact Kd.fB (qI (g:=w.heap.size+1+1) (by (with_reducible repeat (first|apply Kd.cO|apply Kd.eX|apply Kd.iI));exact HM.out) (fun (b:Nat) (hb:b≠w.heap.size∧b≠w.heap.size+1∧b≠w.heap.size+1+1)=>hb.2.2) _ _ _ _ _ _ _ _ _) (fun _ _=>trivial)
    ·(repeat (first|(with_reducible apply aD)|(with_reducible apply aH)|(with_reducible apply jO)));exact gX (g:=w.heap.size+1+1) (by repeat (first|exact HB.out|apply aD|apply aH)) (by omega) _ _ _ _ _ _ _ _ _
theorem oH {w:World} {b:Nat} {t:TypeId} {c0 c1 c2 c3 c4 c5 c6 c7 c8:Value} (h:w.heap[b]?=some (.cells #[c0,c1,c2,c3,c4,c5,c6,c7,c8] t (0,0))):w.cell? ⟨b,0,none⟩=some c0∧w.cell? ⟨b,1,none⟩=some c1∧w.cell? ⟨b,2,none⟩=some c2∧w.cell? ⟨b,3,none⟩=some c3∧w.cell? ⟨b,4,none⟩=some c4∧w.cell? ⟨b,5,none⟩=some c5∧w.cell? ⟨b,6,none⟩=some c6∧w.cell? ⟨b,7,none⟩=some c7∧w.cell? ⟨b,8,none⟩=some c8:=
 have k:=fun i=>aC h i
 ⟨k 0,k 1,k 2,k 3,k 4,k 5,k 6,k 7,k 8⟩
theorem kH {W:World} {g t:Nat} {cs:List Cr} (h:W.heap[g]?=some (.cells (bD cs) 192 (0,0))) (ht:t<cs.length):(W.cell? ⟨g,t*9,none⟩=some (.int .u32 cs[t].r0)∧W.cell? ⟨g,t*9+1,none⟩=some (.int .u32 cs[t].r1)∧W.cell? ⟨g,t*9+2,none⟩=some (.int .u32 cs[t].r2)∧W.cell? ⟨g,t*9+3,none⟩=some (.int .u32 cs[t].r3)∧W.cell? ⟨g,t*9+4,none⟩=some (.int .u32 cs[t].r4)∧W.cell? ⟨g,t*9+5,none⟩=some (.int .u32 cs[t].r5)∧W.cell? ⟨g,t*9+6,none⟩=some (.int .u32 cs[t].r6)∧W.cell? ⟨g,t*9+7,none⟩=some (.int .u32 cs[t].r7)∧W.cell? ⟨g,t*9+8,none⟩=some (.int .i64 cs[t].pc))∧W.frozen? ⟨g,t*9,none⟩=false∧W.frozen? ⟨g,t*9+1,none⟩=false∧W.frozen? ⟨g,t*9+2,none⟩=false∧W.frozen? ⟨g,t*9+3,none⟩=false∧W.frozen? ⟨g,t*9+4,none⟩=false∧W.frozen? ⟨g,t*9+5,none⟩=false∧W.frozen? ⟨g,t*9+6,none⟩=false∧W.frozen? ⟨g,t*9+7,none⟩=false∧W.frozen? ⟨g,t*9+8,none⟩=false:=
 have k:=fun (j:Nat) (hj:j<9)=>(aC h (t*9+j)).trans ((tL cs t j hj).trans (by rw [List.getElem?_eq_getElem ht];rfl:_=(cs[t]).cells[j]?))
 have f:=fun (j:Nat)=>aG h (t*9+j)
 ⟨⟨k 0 (by decide),k 1 (by decide),k 2 (by decide),k 3 (by decide),k 4 (by decide),k 5 (by decide),k 6 (by decide),k 7 (by decide),k 8 (by decide)⟩,f 0,f 1,f 2,f 3,f 4,f 5,f 6,f 7,f 8⟩
def oX (W:World) (g o:Nat) (x0 x1 x2 x3 x4 x5 x6 x7 x8:Value):World:=(((((((((W).setCell ⟨g,o,none⟩ x0).setCell ⟨g,o+1,none⟩ x1).setCell ⟨g,o+2,none⟩ x2).setCell ⟨g,o+3,none⟩ x3).setCell ⟨g,o+4,none⟩ x4).setCell ⟨g,o+5,none⟩ x5).setCell ⟨g,o+6,none⟩ x6).setCell ⟨g,o+7,none⟩ x7).setCell ⟨g,o+8,none⟩ x8
theorem PJ (cs:List Cr) (t:Nat) (ht:t<cs.length) (c:Cr):(((((((((bD cs).setIfInBounds (t*9) (.int .u32 c.r0)).setIfInBounds (t*9+1) (.int .u32 c.r1)).setIfInBounds (t*9+2) (.int .u32 c.r2)).setIfInBounds (t*9+3) (.int .u32 c.r3)).setIfInBounds (t*9+4) (.int .u32 c.r4)).setIfInBounds (t*9+5) (.int .u32 c.r5)).setIfInBounds (t*9+6) (.int .u32 c.r6)).setIfInBounds (t*9+7) (.int .u32 c.r7)).setIfInBounds (t*9+8) (.int .i64 c.pc)=bD (cs.set t c):=by
 have e0:(bD cs).setIfInBounds (t*9) (.int .u32 c.r0)=bD (cs.set t ⟨c.r0,cs[t].r1,cs[t].r2,cs[t].r3,cs[t].r4,cs[t].r5,cs[t].r6,cs[t].r7,cs[t].pc⟩):=dR cs t 0 _ ⟨c.r0,cs[t].r1,cs[t].r2,cs[t].r3,cs[t].r4,cs[t].r5,cs[t].r6,cs[t].r7,cs[t].pc⟩ (by decide) ht rfl
 have e1:(bD (cs.set t ⟨c.r0,cs[t].r1,cs[t].r2,cs[t].r3,cs[t].r4,cs[t].r5,cs[t].r6,cs[t].r7,cs[t].pc⟩)).setIfInBounds (t*9+1) (.int .u32 c.r1)=bD (cs.set t ⟨c.r0,c.r1,cs[t].r2,cs[t].r3,cs[t].r4,cs[t].r5,cs[t].r6,cs[t].r7,cs[t].pc⟩):=by
  rw [dR (cs.set t ⟨c.r0,cs[t].r1,cs[t].r2,cs[t].r3,cs[t].r4,cs[t].r5,cs[t].r6,cs[t].r7,cs[t].pc⟩) t 1 _ ⟨c.r0,c.r1,cs[t].r2,cs[t].r3,cs[t].r4,cs[t].r5,cs[t].r6,cs[t].r7,cs[t].pc⟩ (by decide) (by simpa using ht) (by rw [List.getElem_set_self];rfl),List.set_set]
 have e2:(bD (cs.set t ⟨c.r0,c.r1,cs[t].r2,cs[t].r3,cs[t].r4,cs[t].r5,cs[t].r6,cs[t].r7,cs[t].pc⟩)).setIfInBounds (t*9+2) (.int .u32 c.r2)=bD (cs.set t ⟨c.r0,c.r1,c.r2,cs[t].r3,cs[t].r4,cs[t].r5,cs[t].r6,cs[t].r7,cs[t].pc⟩):=by
  rw [dR (cs.set t ⟨c.r0,c.r1,cs[t].r2,cs[t].r3,cs[t].r4,cs[t].r5,cs[t].r6,cs[t].r7,cs[t].pc⟩) t 2 _ ⟨c.r0,c.r1,c.r2,cs[t].r3,cs[t].r4,cs[t].r5,cs[t].r6,cs[t].r7,cs[t].pc⟩ (by decide) (by simpa using ht) (by rw [List.getElem_set_self];rfl),List.set_set]
 have e3:(bD (cs.set t ⟨c.r0,c.r1,c.r2,cs[t].r3,cs[t].r4,cs[t].r5,cs[t].r6,cs[t].r7,cs[t].pc⟩)).setIfInBounds (t*9+3) (.int .u32 c.r3)=bD (cs.set t ⟨c.r0,c.r1,c.r2,c.r3,cs[t].r4,cs[t].r5,cs[t].r6,cs[t].r7,cs[t].pc⟩):=by
  rw [dR (cs.set t ⟨c.r0,c.r1,c.r2,cs[t].r3,cs[t].r4,cs[t].r5,cs[t].r6,cs[t].r7,cs[t].pc⟩) t 3 _ ⟨c.r0,c.r1,c.r2,c.r3,cs[t].r4,cs[t].r5,cs[t].r6,cs[t].r7,cs[t].pc⟩ (by decide) (by simpa using ht) (by rw [List.getElem_set_self];rfl),List.set_set]
 have e4:(bD (cs.set t ⟨c.r0,c.r1,c.r2,c.r3,cs[t].r4,cs[t].r5,cs[t].r6,cs[t].r7,cs[t].pc⟩)).setIfInBounds (t*9+4) (.int .u32 c.r4)=bD (cs.set t ⟨c.r0,c.r1,c.r2,c.r3,c.r4,cs[t].r5,cs[t].r6,cs[t].r7,cs[t].pc⟩):=by
  rw [dR (cs.set t ⟨c.r0,c.r1,c.r2,c.r3,cs[t].r4,cs[t].r5,cs[t].r6,cs[t].r7,cs[t].pc⟩) t 4 _ ⟨c.r0,c.r1,c.r2,c.r3,c.r4,cs[t].r5,cs[t].r6,cs[t].r7,cs[t].pc⟩ (by decide) (by simpa using ht) (by rw [List.getElem_set_self];rfl),List.set_set]
 have e5:(bD (cs.set t ⟨c.r0,c.r1,c.r2,c.r3,c.r4,cs[t].r5,cs[t].r6,cs[t].r7,cs[t].pc⟩)).setIfInBounds (t*9+5) (.int .u32 c.r5)=bD (cs.set t ⟨c.r0,c.r1,c.r2,c.r3,c.r4,c.r5,cs[t].r6,cs[t].r7,cs[t].pc⟩):=by
  rw [dR (cs.set t ⟨c.r0,c.r1,c.r2,c.r3,c.r4,cs[t].r5,cs[t].r6,cs[t].r7,cs[t].pc⟩) t 5 _ ⟨c.r0,c.r1,c.r2,c.r3,c.r4,c.r5,cs[t].r6,cs[t].r7,cs[t].pc⟩ (by decide) (by simpa using ht) (by rw [List.getElem_set_self];rfl),List.set_set]
 have e6:(bD (cs.set t ⟨c.r0,c.r1,c.r2,c.r3,c.r4,c.r5,cs[t].r6,cs[t].r7,cs[t].pc⟩)).setIfInBounds (t*9+6) (.int .u32 c.r6)=bD (cs.set t ⟨c.r0,c.r1,c.r2,c.r3,c.r4,c.r5,c.r6,cs[t].r7,cs[t].pc⟩):=by
  rw [dR (cs.set t ⟨c.r0,c.r1,c.r2,c.r3,c.r4,c.r5,cs[t].r6,cs[t].r7,cs[t].pc⟩) t 6 _ ⟨c.r0,c.r1,c.r2,c.r3,c.r4,c.r5,c.r6,cs[t].r7,cs[t].pc⟩ (by decide) (by simpa using ht) (by rw [List.getElem_set_self];rfl),List.set_set]
 have e7:(bD (cs.set t ⟨c.r0,c.r1,c.r2,c.r3,c.r4,c.r5,c.r6,cs[t].r7,cs[t].pc⟩)).setIfInBounds (t*9+7) (.int .u32 c.r7)=bD (cs.set t ⟨c.r0,c.r1,c.r2,c.r3,c.r4,c.r5,c.r6,c.r7,cs[t].pc⟩):=by
  rw [dR (cs.set t ⟨c.r0,c.r1,c.r2,c.r3,c.r4,c.r5,c.r6,cs[t].r7,cs[t].pc⟩) t 7 _ ⟨c.r0,c.r1,c.r2,c.r3,c.r4,c.r5,c.r6,c.r7,cs[t].pc⟩ (by decide) (by simpa using ht) (by rw [List.getElem_set_self];rfl),List.set_set]
 have e8:(bD (cs.set t ⟨c.r0,c.r1,c.r2,c.r3,c.r4,c.r5,c.r6,c.r7,cs[t].pc⟩)).setIfInBounds (t*9+8) (.int .i64 c.pc)=bD (cs.set t c):=by
  rw [dR (cs.set t ⟨c.r0,c.r1,c.r2,c.r3,c.r4,c.r5,c.r6,c.r7,cs[t].pc⟩) t 8 _ c (by decide) (by simpa using ht) (by rw [List.getElem_set_self];rfl),List.set_set]
 rw [e0,e1,e2,e3,e4,e5,e6,e7,e8]
theorem wD {W:World} {g t:Nat} {cs:List Cr} (h:W.heap[g]?=some (.cells (bD cs) 192 (0,0))) (ht:t<cs.length) (c:Cr):(oX W g (t*9) (.int .u32 c.r0) (.int .u32 c.r1) (.int .u32 c.r2) (.int .u32 c.r3) (.int .u32 c.r4) (.int .u32 c.r5) (.int .u32 c.r6) (.int .u32 c.r7) (.int .i64 c.pc)).heap[g]?=some (.cells (bD (cs.set t c)) 192 (0,0)):=
 (bE (bE (bE (bE (bE (bE (bE (bE (bE h (t*9) (.int .u32 c.r0)) (t*9+1) (.int .u32 c.r1)) (t*9+2) (.int .u32 c.r2)) (t*9+3) (.int .u32 c.r3)) (t*9+4) (.int .u32 c.r4)) (t*9+5) (.int .u32 c.r5)) (t*9+6) (.int .u32 c.r6)) (t*9+7) (.int .u32 c.r7)) (t*9+8) (.int .i64 c.pc)).trans (by rw [PJ cs t ht c])
theorem pG {W:World} {g g' o:Nat} {t:TypeId} {cs:Array Value} (h:W.heap[g']?=some (.cells cs t (0,0))) (hne:g'≠g) (x0 x1 x2 x3 x4 x5 x6 x7 x8:Value):(oX W g o x0 x1 x2 x3 x4 x5 x6 x7 x8).heap[g']?=some (.cells cs t (0,0)):=
 (bB (p:=⟨g,o+8,none⟩) (bB (p:=⟨g,o+7,none⟩) (bB (p:=⟨g,o+6,none⟩) (bB (p:=⟨g,o+5,none⟩) (bB (p:=⟨g,o+4,none⟩) (bB (p:=⟨g,o+3,none⟩) (bB (p:=⟨g,o+2,none⟩) (bB (p:=⟨g,o+1,none⟩) (bB (p:=⟨g,o,none⟩) h hne x0) hne x1) hne x2) hne x3) hne x4) hne x5) hne x6) hne x7) hne x8)
theorem AK (W:World) (g o:Nat) (x0 x1 x2 x3 x4 x5 x6 x7 x8:Value):Mod (fun q=>q=g) W (oX W g o x0 x1 x2 x3 x4 x5 x6 x7 x8):=
 (Mod.setCell (Mod.setCell (Mod.setCell (Mod.setCell (Mod.setCell (Mod.setCell (Mod.setCell (Mod.setCell (Mod.setCell (Mod.refl (fun q=>q=g) W) (p:=⟨g,o,none⟩) rfl x0) (p:=⟨g,o+1,none⟩) rfl x1) (p:=⟨g,o+2,none⟩) rfl x2) (p:=⟨g,o+3,none⟩) rfl x3) (p:=⟨g,o+4,none⟩) rfl x4) (p:=⟨g,o+5,none⟩) rfl x5) (p:=⟨g,o+6,none⟩) rfl x6) (p:=⟨g,o+7,none⟩) rfl x7) (p:=⟨g,o+8,none⟩) rfl x8)
def iU (W:World) (g:Nat) (x0 x1 x2 x3 x4 x5:Value):World:=((((((W).setCell ⟨g,0,none⟩ x0).setCell ⟨g,1,none⟩ x1).setCell ⟨g,2,none⟩ x2).setCell ⟨g,3,none⟩ x3).setCell ⟨g,4,none⟩ x4).setCell ⟨g,5,none⟩ x5
theorem eY {W:World} {g:Nat} {t:TypeId} {y0 y1 y2 y3 y4 y5:Value} (h:W.heap[g]?=some (.cells #[y0,y1,y2,y3,y4,y5] t (0,0))) (x0 x1 x2 x3 x4 x5:Value):(iU W g x0 x1 x2 x3 x4 x5).heap[g]?=some (.cells #[x0,x1,x2,x3,x4,x5] t (0,0)):=
 (bE (bE (bE (bE (bE (bE h 0 x0) 1 x1) 2 x2) 3 x3) 4 x4) 5 x5).trans rfl
theorem EF {W:World} {g g':Nat} {t:TypeId} {cs:Array Value} (h:W.heap[g']?=some (.cells cs t (0,0))) (hne:g'≠g) (x0 x1 x2 x3 x4 x5:Value):(iU W g x0 x1 x2 x3 x4 x5).heap[g']?=some (.cells cs t (0,0)):=
 (bB (p:=⟨g,5,none⟩) (bB (p:=⟨g,4,none⟩) (bB (p:=⟨g,3,none⟩) (bB (p:=⟨g,2,none⟩) (bB (p:=⟨g,1,none⟩) (bB (p:=⟨g,0,none⟩) h hne x0) hne x1) hne x2) hne x3) hne x4) hne x5)
theorem fR (W:World) (g:Nat) (x0 x1 x2 x3 x4 x5:Value):Mod (fun q=>q=g) W (iU W g x0 x1 x2 x3 x4 x5):=
 (Mod.setCell (Mod.setCell (Mod.setCell (Mod.setCell (Mod.setCell (Mod.setCell (Mod.refl (fun q=>q=g) W) (p:=⟨g,0,none⟩) rfl x0) (p:=⟨g,1,none⟩) rfl x1) (p:=⟨g,2,none⟩) rfl x2) (p:=⟨g,3,none⟩) rfl x3) (p:=⟨g,4,none⟩) rfl x4) (p:=⟨g,5,none⟩) rfl x5)
theorem WZ (bm cs cb:Nat) (p:Value) (As Ab:Option Addr) (szs dM:List Int) (ar:Int) (v:Nat) (w:World)
  (hb:w.heap[bm]?=some (.cells #[p,.slice As szs.length cs,.slice Ab szs.length cb] 261 (0,0))) (hs:Kd.C (Kd.int .i64) w As szs.length szs) (hg:Kd.C (Kd.int .i64) w Ab szs.length dM) (h8:szs.length≤8) (hv:v<4294967296) (a0:0≤ar) (a1:ar<szs.length) (hlt:(hIdx v:Int)<rd szs ar) (bg:0≤rd dM ar∧rd dM ar≤1000000):
  Calls Tryz.prog 126 #[.pointer (some ⟨bm,0,none⟩),.int .i64 ar,.int .u32 (v:Int)] w fun e w'=>e= .returned (.tuple #[.int .i64 (rd dM ar+hIdx v),.bool true])∧bS w w':=by
 have P:=aA.mk (fun W:World=>(mQ v hv W).mono (R':=fun e w'=>e= .returned (.int .i64 (hIdx v:Int))∧w'=W) (fun _ _ h=>⟨h.1,h.2.symm⟩))
 have b1:=(aC hb 1).trans rfl
 have b2:=(aC hb 2).trans rfl
 obtain ⟨ad,rfl,x0⟩:=Kd.oZ hs ar a0 a1
 obtain ⟨ag,rfl,x1⟩:=Kd.oZ hg ar a0 a1
 have hi:hIdx v<4096:=Nat.mod_lt _ (by decide)
 have e1:decide (ar<0)=false:=decide_eq_false (by omega)
 have e2:decide ((szs.length:Int)≤ar)=false:=decide_eq_false (by omega)
 have hs1:IntKind.i64.wrap (rd dM ar+(hIdx v:Int))=rd dM ar+hIdx v:=IntWalk.i64_in _ (by omega)
 have e3:decide (rd szs ar≤(hIdx v:Int))=false:=decide_eq_false (by omega)
 have n8:(szs.length:Int)≤8:=by omega
 generalize rd szs ar=y0 at x0 e3 hlt
 generalize rd dM ar=y1 at x1 hs1 bg ⊢
 generalize hIdx v=y2 at P hi hs1 e3 hlt ⊢
 clear hb hs hg h8 hv hlt bg hi
 go_enter Tryz.func126,Tryz.ntmps126
 go_wp2_with fail
 go_quiet ((go_at_call 183;exact Calls.quiet_of_same (P.out _)))
 go_wp2_with fail
 have c1:(w.drewN nq).cell? ⟨bm,2,none⟩=some (.slice (some ag) szs.length cb):=b2
 have c2:(w.drewN nq).cell? (ag.add ar.toNat)=some (.int .i64 y1):=x1
 have HD:=aA.mk (show bS w (w.drewN nq) from ⟨⟨_,rfl⟩⟩)
 clear b1 b2 x0 x1
 generalize w.drewN nq=wq at c1 c2 HD ⊢
 go_quiet ((go_at_call 183;exact Calls.quiet_of_same (P.out _)))
 go_wp2
 go_ret2
 exact ⟨rfl,HD.out.step _⟩
theorem SE (bm cs cb:Nat) (p:Value) (As Ab:Option Addr) (szs dM:List Int) (ar:Int) (v:Nat) (w:World)
  (hb:w.heap[bm]?=some (.cells #[p,.slice As szs.length cs,.slice Ab szs.length cb] 261 (0,0))) (hs:Kd.C (Kd.int .i64) w As szs.length szs) (hg:Kd.C (Kd.int .i64) w Ab szs.length dM) (h8:szs.length≤8) (hv:v<4294967296) (a0:0≤ar) (a1:ar<szs.length) (hlt:rd szs ar≤(hIdx v:Int)):
  Calls Tryz.prog 126 #[.pointer (some ⟨bm,0,none⟩),.int .i64 ar,.int .u32 (v:Int)] w fun e w'=>e= .returned (.tuple #[.int .i64 0,.bool false])∧bS w w':=by
 have P:=aA.mk (fun W:World=>(mQ v hv W).mono (R':=fun e w'=>e= .returned (.int .i64 (hIdx v:Int))∧w'=W) (fun _ _ h=>⟨h.1,h.2.symm⟩))
 have b1:=(aC hb 1).trans rfl
 obtain ⟨ad,rfl,x0⟩:=Kd.oZ hs ar a0 a1
 have e1:decide (ar<0)=false:=decide_eq_false (by omega)
 have e2:decide ((szs.length:Int)≤ar)=false:=decide_eq_false (by omega)
 have e3:decide (rd szs ar≤(hIdx v:Int))=true:=decide_eq_true (by omega)
 have n8:(szs.length:Int)≤8:=by omega
 generalize rd szs ar=y0 at x0 e3 hlt
 generalize hIdx v=y2 at P e3 hlt
 clear hb hs hg h8 hv hlt
 go_enter Tryz.func126,Tryz.ntmps126
 go_wp2_with fail
 go_quiet ((go_at_call 183;exact Calls.quiet_of_same (P.out _)))
 go_wp2
 go_ret2
 exact ⟨rfl,⟨⟨_,rfl⟩⟩⟩
theorem NA (bm cs cb:Nat) (p:Value) (As Ab:Option Addr) (szs dM:List Int) (ar:Int) (v:Nat) (w:World)
  (hb:w.heap[bm]?=some (.cells #[p,.slice As szs.length cs,.slice Ab szs.length cb] 261 (0,0))) (hs:Kd.C (Kd.int .i64) w As szs.length szs) (hg:Kd.C (Kd.int .i64) w Ab szs.length dM) (h8:szs.length≤8) (hv:v<4294967296) (a0:ar<0∨szs.length≤ar):
  Calls Tryz.prog 126 #[.pointer (some ⟨bm,0,none⟩),.int .i64 ar,.int .u32 (v:Int)] w fun e w'=>e= .returned (.tuple #[.int .i64 0,.bool false])∧bS w w':=by
 have b1:=(aC hb 1).trans rfl
 by_cases h:ar<0
 ·have e1:decide (ar<0)=true:=decide_eq_true h
  clear hb hs hg h8 hv h a0
  go_enter Tryz.func126,Tryz.ntmps126
  go_wp2_with fail
  go_quiet (fail)
  go_wp2
  go_ret2
  exact ⟨rfl,⟨⟨_,rfl⟩⟩⟩
 ·have e1:decide (ar<0)=false:=decide_eq_false h
  have e2:decide ((szs.length:Int)≤ar)=true:=decide_eq_true (by omega)
  clear hb hs hg h8 hv h a0
  go_enter Tryz.func126,Tryz.ntmps126
  go_wp2_with fail
  go_quiet (fail)
  go_wp2
  go_ret2
  exact ⟨rfl,⟨⟨_,rfl⟩⟩⟩
theorem iA (be gk cap bm bp:Nat) (A:Option Addr) (l:List dA) (lo un:Int) (cs:List Cr) (t:Nat) (c:Cr) (d0 a0 e0:Int) (wr st:Bool) (r:Cr × List Int × Int × Int) (w:World)
  (hb:w.heap[be]?=some (.cells #[.slice A l.length cap,.int .i64 lo,.int .i64 un,.pointer (some ⟨bm,0,none⟩),.pointer (some ⟨bp,0,none⟩),.slice (some ⟨gk,0,none⟩) cs.length cs.length] 149 (0,0)))
  (hl:Kd.C e9 w A l.length l) (hcap:l.length≤cap) (hn:l.length≤64) (hi:∀ i∈l,okI i) (hk:w.heap[gk]?=some (.cells (bD cs) 192 (0,0))) (ht:t<cs.length) (h64:cs.length≤64) (hc:c.ok) (hr:go l t 256 c []=r):
  Calls Tryz.prog 128 #[.pointer (some ⟨be,0,none⟩),.int .i64 (t:Int),c.val,.agg #[.slice none 0 0,.int .i64 d0,.int .i64 a0,.bool wr,.bool st,.int .i64 e0]] w fun e w'=>
   ∃ v,e= .returned (.agg #[v,.int .i64 r.2.2.1,.int .i64 a0,.bool wr,.bool st,.int .i64 r.2.2.2])∧Kd.R (Kd.int .i64) 3 w' w.heap.size (fun _=>True) v r.2.1∧Mod (fun q=>q=gk) w w'∧w'.heap[gk]?=some (.cells (bD (cs.set t r.1)) 192 (0,0)):=by
 obtain ⟨c',ms,dn,er⟩:=r
 obtain ⟨q0,q1,q2,q3,q4,q5,q6,q7,q8⟩:=c'
 have P:aA (∀ W:World,Kd.C e9 W A l.length l→Calls Tryz.prog 188 #[c.val,.agg #[.slice A l.length cap,.int .i64 lo,.int .i64 un],.int .i64 (t:Int)] W fun e w'=>∃ v,e= .returned (.tuple #[.agg #[.int .u32 q0,.int .u32 q1,.int .u32 q2,.int .u32 q3,.int .u32 q4,.int .u32 q5,.int .u32 q6,.int .u32 q7,.int .i64 q8],v,.int .i64 dn,.int .i64 er])∧Kd.R (Kd.int .i64) 3 w' W.heap.size (fun _=>True) v ms∧Below W.heap.size W w'):=⟨fun W hl=>OA c hc (t:Int) (by omega) (by omega) A cap l lo un W hl hcap hn hi _ hr⟩
 have b0:=(aC hb 0).trans rfl
 have b1:=(aC hb 1).trans rfl
 have b2:=(aC hb 2).trans rfl
 have b5:=(aC hb 5).trans rfl
 have i0:(0:Int)≤(t:Int):=by omega
 have i1:(t:Int)<(cs.length:Int):=by omega
 have HL:=aA.mk hl
 have HB:=aA.mk hb
 have HK:=aA.mk hk
 have HT:=aA.mk ht
 have zb:=aZ hb
 clear hb hl hcap hn hi hk ht h64 hc hr
 obtain ⟨r0,r1,r2,r3,r4,r5,r6,r7,pc⟩:=c
 show Calls Tryz.prog 128 #[.pointer (some ⟨be,0,none⟩),.int .i64 (t:Int),.agg #[.int .u32 r0,.int .u32 r1,.int .u32 r2,.int .u32 r3,.int .u32 r4,.int .u32 r5,.int .u32 r6,.int .u32 r7,.int .i64 pc],.agg #[.slice none 0 0,.int .i64 d0,.int .i64 a0,.bool wr,.bool st,.int .i64 e0]] w _
 go_enter Tryz.func128,Tryz.ntmps128
 go_wp2_with fail
 have hbl:=mM w (.cells #[.int .u32 r0,.int .u32 r1,.int .u32 r2,.int .u32 r3,.int .u32 r4,.int .u32 r5,.int .u32 r6,.int .u32 r7,.int .i64 pc] 192) (.cells #[.slice none 0 0,.int .i64 d0,.int .i64 a0,.bool wr,.bool st,.int .i64 e0] 136) (.cells #[.slice none 0 0,.int .i64 0,.int .i64 0,.bool false,.bool false,.int .i64 0] 136)
 have n6:=aA.mk hbl.1
 have n7:=aA.mk hbl.2.1
 have n8:=aA.mk hbl.2.2
 have HW:=aA.mk (show Below w.heap.size w (((w.alloc _).alloc _).alloc _) from aD (aD (aD (Below.refl w.heap.size w) (.cells #[.int .u32 r0,.int .u32 r1,.int .u32 r2,.int .u32 r3,.int .u32 r4,.int .u32 r5,.int .u32 r6,.int .u32 r7,.int .i64 pc] 192)) (.cells #[.slice none 0 0,.int .i64 d0,.int .i64 a0,.bool wr,.bool st,.int .i64 e0] 136)) (.cells #[.slice none 0 0,.int .i64 0,.int .i64 0,.bool false,.bool false,.int .i64 0] 136))
 clear hbl
 generalize (((w.alloc (.cells #[.int .u32 r0,.int .u32 r1,.int .u32 r2,.int .u32 r3,.int .u32 r4,.int .u32 r5,.int .u32 r6,.int .u32 r7,.int .i64 pc] 192)).alloc (.cells #[.slice none 0 0,.int .i64 d0,.int .i64 a0,.bool wr,.bool st,.int .i64 e0] 136)).alloc (.cells #[.slice none 0 0,.int .i64 0,.int .i64 0,.bool false,.bool false,.int .i64 0] 136))=w1 at n6 n7 n8 HW ⊢
 have nb:=aA.mk (aE HB.out HW.out)
 have nk:=aA.mk (aE HK.out HW.out)
 have nl:=aA.mk (Kd.cH HL.out HW.out)
 clear b0 b1 b2 b5
 have b0:=(aC nb.out 0).trans rfl
 have b1:=(aC nb.out 1).trans rfl
 have b2:=(aC nb.out 2).trans rfl
 have b5:=(aC nb.out 5).trans rfl
 obtain ⟨g0,g1,g2,g3,g4,g5,g6,g7,g8⟩:=oH n6.out

 refine dB (n:=25) (S:=fun w'=>w'.heap[w.heap.size]?=some (.cells #[.int .u32 r0,.int .u32 r1,.int .u32 r2,.int .u32 r3,.int .u32 r4,.int .u32 r5,.int .u32 r6,.int .u32 r7,.int .i64 pc] 192 (0,0))∧w'.heap[be]?=some (.cells #[.slice A l.length cap,.int .i64 lo,.int .i64 un,.pointer (some ⟨bm,0,none⟩),.pointer (some ⟨bp,0,none⟩),.slice (some ⟨gk,0,none⟩) cs.length cs.length] 149 (0,0))) (ds:= [18,20,22,24]) #[false,false,false,false,false,false,false,false,false,false,false,false,false,false,false,false,false,false,false,false,false,false,false,false,false] (by kernel_rfl) rfl rfl ⟨n6.out,nb.out⟩ (fun hHeld=>?_)
 replace n6:=aA.mk (drew_ n6.out)
 replace n7:=aA.mk (drew_ n7.out)
 replace n8:=aA.mk (drew_ n8.out)
 replace nb:=aA.mk (drew_ nb.out)
 replace nk:=aA.mk (drew_ nk.out)
 replace nl:=aA.mk (Kd.DL nl.out)
 replace HW:=aA.mk (bG HW.out)
 generalize w1.drew=w2 at n6 n7 n8 nb nk nl HW hHeld ⊢
 refine pur_ 0 10 ?_
 refine pur_ 1 11 ?_
 refine pur_ 2 12 ?_
 refine pur_ 4 14 ?_
 refine pur_ 6 16 ?_
 refine pur_ 7 17 ?_
 refine pur_ 8 18 ?_
 refine pur_ 10 20 ?_
 refine tak_ 3 13 (.slice (some ⟨gk,0,none⟩) cs.length cs.length) ?_ hHeld ?_
 ·intro w' hS
  have c5:=(aC hS.2 5).trans rfl
  clear hHeld hS
  go_simp
 refine tak_ 5 15 (.agg #[.int .u32 r0,.int .u32 r1,.int .u32 r2,.int .u32 r3,.int .u32 r4,.int .u32 r5,.int .u32 r6,.int .u32 r7,.int .i64 pc]) ?_ hHeld ?_
 ·intro w' hS
  obtain ⟨g0,g1,g2,g3,g4,g5,g6,g7,g8⟩:=oH hS.1
  clear hHeld hS
  go_simp
 refine tak_ 9 19 (.agg #[.slice A l.length cap,.int .i64 lo,.int .i64 un]) ?_ hHeld ?_
 ·intro w' hS
  have c0:=(aC hS.2 0).trans rfl
  have c1:=(aC hS.2 1).trans rfl
  have c2:=(aC hS.2 2).trans rfl
  clear hHeld hS
  go_simp
 refine on_ 11 21 (fun K hK=>?_)
 refine goe_ Tryz.func188 #[.agg #[.int .u32 r0,.int .u32 r1,.int .u32 r2,.int .u32 r3,.int .u32 r4,.int .u32 r5,.int .u32 r6,.int .u32 r7,.int .i64 pc],.agg #[.slice A l.length cap,.int .i64 lo,.int .i64 un],.int .i64 (t:Int)] ?_
 refine (P.out _ nl.out).mono ?_
 rintro e w9 ⟨v,rfl,hR,hb⟩
 have HV0:=aA.mk (Kd.cT hR HW.out.size)
 clear hR
 obtain ⟨Av,cv,hv,_,_⟩:=Kd.bY HV0.out
 subst hv
 refine ⟨_,rfl,?_⟩
 replace n6:=aA.mk (aE n6.out hb)
 replace n7:=aA.mk (aE n7.out hb)
 replace n8:=aA.mk (aE n8.out hb)
 replace nb:=aA.mk (aE nb.out hb)
 replace nk:=aA.mk (aE nk.out hb)
 replace nl:=aA.mk (Kd.cH nl.out hb)
 replace HW:=aA.mk (bA HW.out hb)
 clear hb hHeld
 refine hK.out _ _ ⟨n6.out,nb.out⟩ (fun hHeld=>?_)
 clear hK K
 refine nor_ ?_
 refine pur_ 12 9 ?_
 refine pur_ 13 22 ?_
 refine pur_ 14 23 ?_
 refine pur_ 15 24 ?_
 refine pur_ 16 25 ?_
 refine pur_ 17 26 ?_
 refine fX (i:=18) (N:=none) #[true,true,true,true,true,true,true,true,true,true,true,true,true,true,true,true,true,true,true,false,false,false,false,false,false] rfl rfl (by kernel_rfl) (by decide) (fun K hK=>?_)
 refine iH (w1:=oX w9 gk (t*9) (.int .u32 q0) (.int .u32 q1) (.int .u32 q2) (.int .u32 q3) (.int .u32 q4) (.int .u32 q5) (.int .u32 q6) (.int .u32 q7) (.int .i64 q8)) (by rfl) rfl ?_ ?_
 ·clear hK hHeld
  obtain ⟨⟨k0,k1,k2,k3,k4,k5,k6,k7,k8⟩,j0,j1,j2,j3,j4,j5,j6,j7,j8⟩:=kH nk.out HT.out
  unfold oX
  go_simp
 have HW9:=HW
 have hk9:=nk
 have h79:=n7
 have h89:=n8
 have ne7:w.heap.size+1≠gk:=by have:=aZ HK.out;omega
 have ne8:w.heap.size+1+1≠gk:=by have:=aZ HK.out;omega
 have ne9:w.heap.size+1+1≠w.heap.size+1:=by omega
 have n_n7:=aA.mk (pG n7.out ne7 (o:=t*9) (.int .u32 q0) (.int .u32 q1) (.int .u32 q2) (.int .u32 q3) (.int .u32 q4) (.int .u32 q5) (.int .u32 q6) (.int .u32 q7) (.int .i64 q8))
 have n_n8:=aA.mk (pG n8.out ne8 (o:=t*9) (.int .u32 q0) (.int .u32 q1) (.int .u32 q2) (.int .u32 q3) (.int .u32 q4) (.int .u32 q5) (.int .u32 q6) (.int .u32 q7) (.int .i64 q8))
 have n_nk:=aA.mk (wD nk.out HT.out ⟨q0,q1,q2,q3,q4,q5,q6,q7,q8⟩)
 have HM:=aA.mk (show Mod (fun q=>q=gk∨q=w.heap.size+1∨q=w.heap.size+1+1) w9 (oX w9 gk (t*9) (.int .u32 q0) (.int .u32 q1) (.int .u32 q2) (.int .u32 q3) (.int .u32 q4) (.int .u32 q5) (.int .u32 q6) (.int .u32 q7) (.int .i64 q8)) from (AK w9 gk (t*9) (.int .u32 q0) (.int .u32 q1) (.int .u32 q2) (.int .u32 q3) (.int .u32 q4) (.int .u32 q5) (.int .u32 q6) (.int .u32 q7) (.int .i64 q8)).mono (fun _ _ h=>Or.inl h))
 clear n7 n8 nk hHeld
 have n7:=n_n7
 have n8:=n_n8
 have nk:=n_nk
 clear n_n7 n_n8 n_nk
 change aA ((oX w9 gk (t*9) (.int .u32 q0) (.int .u32 q1) (.int .u32 q2) (.int .u32 q3) (.int .u32 q4) (.int .u32 q5) (.int .u32 q6) (.int .u32 q7) (.int .i64 q8)).heap[gk]?=_) at nk
 generalize oX w9 gk (t*9) (.int .u32 q0) (.int .u32 q1) (.int .u32 q2) (.int .u32 q3) (.int .u32 q4) (.int .u32 q5) (.int .u32 q6) (.int .u32 q7) (.int .i64 q8)=w3 at n7 n8 nk HM ⊢
 refine hK.out _ _ ?_
 clear hK K
 refine pur_ 19 27 ?_
 refine fX (i:=20) (N:=none) #[true,true,true,true,true,true,true,true,true,true,true,true,true,true,true,true,true,true,true,true,true,false,false,false,false] rfl rfl (by kernel_rfl) (by decide) (fun K hK=>?_)
 refine iH (w1:=w3.setCell ⟨w.heap.size+1,0,none⟩ (.slice Av ms.length cv)) (by rfl) rfl ?_ ?_
 ·clear hK
  have cj:=(aC n7.out 0).trans rfl
  have fj:=aG n7.out 0
  go_simp
 replace n7:=aA.mk ((bE n7.out 0 (.slice Av ms.length cv)).trans rfl)
 replace n8:=aA.mk (bB (p:=⟨w.heap.size+1,0,none⟩) n8.out ne9 (.slice Av ms.length cv))
 replace nk:=aA.mk (bB (p:=⟨w.heap.size+1,0,none⟩) nk.out ne7.symm (.slice Av ms.length cv))
 replace HM:=aA.mk (HM.out.setCell (p:=⟨w.heap.size+1,0,none⟩) (Or.inr (Or.inl rfl)) (.slice Av ms.length cv))
 generalize w3.setCell ⟨w.heap.size+1,0,none⟩ (.slice Av ms.length cv)=w4 at n7 n8 nk HM ⊢
 refine hK.out _ _ ?_
 clear hK K
 refine pur_ 21 28 ?_
 refine fX (i:=22) (N:=none) #[true,true,true,true,true,true,true,true,true,true,true,true,true,true,true,true,true,true,true,true,true,true,true,false,false] rfl rfl (by kernel_rfl) (by decide) (fun K hK=>?_)
 refine iH (w1:=w4.setCell ⟨w.heap.size+1,1,none⟩ (.int .i64 dn)) (by rfl) rfl ?_ ?_
 ·clear hK
  have cj:=(aC n7.out 1).trans rfl
  have fj:=aG n7.out 1
  go_simp
 replace n7:=aA.mk ((bE n7.out 1 (.int .i64 dn)).trans rfl)
 replace n8:=aA.mk (bB (p:=⟨w.heap.size+1,1,none⟩) n8.out ne9 (.int .i64 dn))
 replace nk:=aA.mk (bB (p:=⟨w.heap.size+1,1,none⟩) nk.out ne7.symm (.int .i64 dn))
 replace HM:=aA.mk (HM.out.setCell (p:=⟨w.heap.size+1,1,none⟩) (Or.inr (Or.inl rfl)) (.int .i64 dn))
 generalize w4.setCell ⟨w.heap.size+1,1,none⟩ (.int .i64 dn)=w5 at n7 n8 nk HM ⊢
 refine hK.out _ _ ?_
 clear hK K
 refine pur_ 23 29 ?_
 refine fX (i:=24) (N:=none) #[true,true,true,true,true,true,true,true,true,true,true,true,true,true,true,true,true,true,true,true,true,true,true,true,true] rfl rfl (by kernel_rfl) (by decide) (fun K hK=>?_)
 refine iH (w1:=w5.setCell ⟨w.heap.size+1,5,none⟩ (.int .i64 er)) (by rfl) rfl ?_ ?_
 ·clear hK
  have cj:=(aC n7.out 5).trans rfl
  have fj:=aG n7.out 5
  go_simp
 replace n7:=aA.mk ((bE n7.out 5 (.int .i64 er)).trans rfl)
 replace n8:=aA.mk (bB (p:=⟨w.heap.size+1,5,none⟩) n8.out ne9 (.int .i64 er))
 replace nk:=aA.mk (bB (p:=⟨w.heap.size+1,5,none⟩) nk.out ne7.symm (.int .i64 er))
 replace HM:=aA.mk (HM.out.setCell (p:=⟨w.heap.size+1,5,none⟩) (Or.inr (Or.inl rfl)) (.int .i64 er))
 generalize w5.setCell ⟨w.heap.size+1,5,none⟩ (.int .i64 er)=w6 at n7 n8 nk HM ⊢
 refine hK.out _ _ ?_
 clear hK K
 refine eO (by kernel_rfl) ?_
 obtain ⟨x0,f0,x1,f1,x2,f2,x3,f3,x4,f4,x5,f5⟩:=fW n7.out
 obtain ⟨y0,z0,y1,z1,y2,z2,y3,z3,y4,z4,y5,z5⟩:=fW n8.out
 go_wp2
 change bodyPost _ _ _ _ _ (iU w6 (w.heap.size+1+1) (.slice Av ms.length cv) (.int .i64 dn) (.int .i64 a0) (.bool wr) (.bool st) (.int .i64 er))
 have M8:=fR w6 (w.heap.size+1+1) (.slice Av ms.length cv) (.int .i64 dn) (.int .i64 a0) (.bool wr) (.bool st) (.int .i64 er)
 have p8:=eY n8.out (.slice Av ms.length cv) (.int .i64 dn) (.int .i64 a0) (.bool wr) (.bool st) (.int .i64 er)
 have pk:=EF nk.out ne8.symm (.slice Av ms.length cv) (.int .i64 dn) (.int .i64 a0) (.bool wr) (.bool st) (.int .i64 er)
 have MM:=HM.out.trans M8 (T:=fun q=>q=w.heap.size+1+1) (fun q _ hq=>Or.inr (Or.inr hq))
 have HVF:=iT HV0.out MM (fun q hq=>by rcases hq with rfl|rfl|rfl <;> first|exact ⟨_,_,hk9.out,by decide⟩|exact ⟨_,_,h79.out,by decide⟩|exact ⟨_,_,h89.out,by decide⟩)
 have MF:Mod (fun q=>q=gk) w (iU w6 (w.heap.size+1+1) (.slice Av ms.length cv) (.int .i64 dn) (.int .i64 a0) (.bool wr) (.bool st) (.int .i64 er)):=(((Mod.jE HW9.out).mono (T:=fun q=>q=gk) (fun _ _ h=>h.elim)).trans MM (T:=fun q=>q=gk∨q=w.heap.size+1∨q=w.heap.size+1+1) (S:=fun q=>q=gk) (fun q hq hs=>by rcases hs with h|h|h <;> first|exact h|(exfalso;omega)))
 generalize iU w6 (w.heap.size+1+1) (.slice Av ms.length cv) (.int .i64 dn) (.int .i64 a0) (.bool wr) (.bool st) (.int .i64 er)=WF at p8 pk HVF MF ⊢
 obtain ⟨r0,r1,r2,r3,r4,r5⟩:=eM p8
 exact bodyPost_ret (v:= .agg #[.slice Av ms.length cv,.int .i64 dn,.int .i64 a0,.bool wr,.bool st,.int .i64 er]) (by simp [results,Tryz.results128,go_sem, *]) rfl ⟨_,rfl,HVF,MF,pk⟩
end Go.Proofs.YtjopodnlffaogaaGreatDoor.Tp
end
