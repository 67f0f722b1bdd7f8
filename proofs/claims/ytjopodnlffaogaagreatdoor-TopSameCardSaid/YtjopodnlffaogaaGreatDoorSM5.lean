/- A part of the proof of TopSame: TmStep0, TmStep, TmStepA, TmOk. -/
import Derived.Test.YtjopodnlffaogaaGreatDoorSL5
import Derived.Test.YtjopodnlffaogaaGreatDoorSM3a
set_option linter.unusedVariables false
set_option linter.unusedSimpArgs false
set_option maxRecDepth 100000
set_option maxHeartbeats 4000000
section
namespace Go.Proofs.YtjopodnlffaogaaGreatDoor.Tp
open Go.RowKit Go.Proofs.YtjopodnlffaogaaGreatDoorW.PrintWords Go.Proofs.YtjopodnlffaogaaGreatDoorW.PrintLast Go.Proofs.YtjopodnlffaogaaGreatDoorW.PrintMore
attribute [local go_sem] aU aQ aY aX aI aJ aT aN
structure XB where
 be:Nat
 bm:Nat
 bc:Nat
 gc:Nat
 bp:Nat
 gr:Nat
 cap:Nat
 mb:Nat
 gk:Nat
 B:Nat
 A:Option Addr
 capl:Nat
 vs:Value
 vb:Value
 rest:List Value
structure XS where
 xs:List Int
 rs:List Rg
 f:Int→Int
 took:Nat
 cs:List Cr
structure XO where
 marks:List Int
 dn:Int
 addr:Int
 wr:Bool
 st:Bool
 er:Int
def vG:XO:=⟨[],-1,-1,false,false,11⟩
def dH (p:dU) (s:XS) (t:Nat) (c:Cr) (addr:Int) (wr:Bool):XO × XS:=
 (⟨(go p.l t 256 c []).2.1,(go p.l t 256 c []).2.2.1,addr,wr,false,(go p.l t 256 c []).2.2.2⟩,⟨s.xs,s.rs,s.f,s.took,s.cs.set t (go p.l t 256 c []).1⟩)
def lB (m:Nat) (r:Rg):Rg:=⟨r.b,r.g,(r.first+1) % m,r.n - 1,r.xs.set r.first 0⟩
def oB (m:Nat) (r:Rg) (h:Int):Rg:=if r.n<m then ⟨r.b,r.g,r.first,r.n+1,r.xs.set ((r.first+r.n) % m) h⟩ else r
def nP:Rg:=⟨0,0,0,0,[]⟩
def bR (p:dU) (s:XS) (t:Nat) (late:Bool):XO × XS:=
 let c:=s.cs.getD t Cr.zero
 let i:=bJ p.l c.pc
 let c1:=c.goto (c.pc+1)
 if ¬ (0≤c.pc∧c.pc<p.l.length) then (vG,s)
 else if ¬ (16≤i.op∧i.op≤23) then (vG,s)
 else if i.op=22 then
  let r:=s.rs.getD t nP
  if r.n=0 then dH p s t (c1.set i.d 0) (-1) false
  else dH p ⟨s.xs,s.rs.set t (lB p.m r),jT s.f (r.xs.getD r.first 0) (t+1),s.took+1,s.cs⟩ t (c1.set i.d (r.xs.getD r.first 0)) (-1) false
 else if i.op=23 then
  let h:=c1.get i.s
  if h=0 then dH p s t c1 (-1) false
  else if s.f h=0 then (vG,s)
  else
   let u:=(s.f h - 1).toNat
   dH p ⟨s.xs,s.rs.set u (oB p.m (s.rs.getD u nP) (eR h.toNat)),jT s.f h 0,s.took,s.cs⟩ t c1 (-1) false
 else
  let v:=(c1.get i.s).toNat
  if ¬ (0≤i.a∧i.a<p.szs.length∧(hIdx v:Int)<rd p.szs i.a) then (vG,s)
  else
   let a:=(rd (dM p.szs p.szs.length) i.a+hIdx v).toNat
   let r:=dS c1 s.xs a i late
   if r.2.2.2=true then (⟨[],-1,a,r.2.2.1,true,0⟩,⟨r.2.1,s.rs,s.f,s.took,s.cs.set t r.1⟩)
   else dH p ⟨r.2.1,s.rs,s.f,s.took,s.cs⟩ t r.1 a r.2.2.1
def oJ (b:XB) (s:XS) (q:Nat):Prop:=q=b.gc∨q=b.gk∨q=b.mb∨∃ r∈s.rs,q=r.b∨q=r.g
structure jQ (W:World) (b:XB) (p:dU) (s:XS):Prop where
 bI:W.heap[b.be]?=some (.cells #[.slice b.A p.l.length b.capl,.int .i64 p.lo,.int .i64 p.un,.pointer (some ⟨b.bm,0,none⟩),.pointer (some ⟨b.bp,0,none⟩),.slice (some ⟨b.gk,0,none⟩) s.cs.length s.cs.length] 149 (0,0))
 code:Kd.R e9 214 W b.B (fun _=>True) (.slice b.A p.l.length b.capl) p.l
 mem:l6 W b.B b.bm b.bc b.gc b.vs b.vb p.szs s.xs
 pool:iG W b.bp b.gr b.cap b.mb p.m s.took b.rest s.rs s.f
 cores:W.heap[b.gk]?=some (.cells (bD s.cs) 192 (0,0))
 old:∀ q,oJ b s q→b.B≤q
section
variable {W W':World} {b:XB} {p:dU} {s:XS}
theorem A9 {rs:List Rg} {t:Nat} (ht:t<rs.length) {r:Rg} (hb:rs[t].b=r.b) (hg:rs[t].g=r.g):∀ q∈rs.set t r,∃ r0∈rs,r0.b=q.b∧r0.g=q.g:=fun q hq=>by
 rcases List.mem_or_eq_of_mem_set hq with h|h
 ·exact ⟨q,h,rfl,rfl⟩
 ·subst h;exact ⟨rs[t],List.getElem_mem ht,hb,hg⟩
theorem put_b (m:Nat) (r:Rg) (h:Int):r.b=(oB m r h).b:=by unfold oB;split <;> rfl
theorem put_g (m:Nat) (r:Rg) (h:Int):r.g=(oB m r h).g:=by unfold oB;split <;> rfl
theorem jQ.below (h:jQ W b p s) (hb:Below W.heap.size W W'):jQ W' b p s:=
 ⟨aE h.bI hb,Kd.eD h.code (fun k _ hk=>hb.block k hk),h.mem.below hb,h.pool.below hb,aE h.cores hb,h.old⟩
theorem jQ.fU (h:jQ W b p s) {g t:Nat} {c:Array Value} (hg:W.heap[g]?=some (.cells c t (0,0))) (ht:t≠314∧t≠192∧t≠284∧t≠22):¬ oJ b s g:=by
 rintro (e|e|e|⟨r,hr,e|e⟩)
 ·exact aK hg h.mem.crow ht.1 e
 ·exact aK hg h.cores ht.2.1 e
 ·exact h.pool.out.fU hg e.symm
 ·exact aK hg (h.pool.rings.at_ r hr).bI ht.2.2.1 e
 ·exact aK hg (h.pool.rings.at_ r hr).row ht.2.2.2 e
theorem jQ.zQ {α:Type} {d:Kd α} {e B:Nat} {v:Value} {ys:List α} (h:jQ W b p s) {S:Nat→Prop} (hm:Mod S W W') (hS:∀ q,S q→oJ b s q) (hr:Kd.R d e W B (fun _=>True) v ys) (ht:∀ y,y∈e :: d.E→y≠314∧y≠192∧y≠284∧y≠22):Kd.R d e W' B (fun _=>True) v ys:=by
 refine Kd.fB (Kd.eD (Kd.eW hr) (fun k hk hlt=>?_)) (fun _ _=>trivial)
 obtain ⟨_,_,_,q,hq,cells,hc⟩:=hk
 exact hm.block k hlt (fun hs=>h.fU hc (ht q hq) (hS k hs))
theorem jQ.nS (h:jQ W b p s) {S:Nat→Prop} (hm:Mod S W W') (hS:∀ q,S q→q=b.mb∨∃ r∈s.rs,q=r.b∨q=r.g) {g t:Nat} {c:Array Value} (hg:W.heap[g]?=some (.cells c t (0,0))) (t1:t≠284) (t2:t≠22):W'.heap[g]?=some (.cells c t (0,0)):=
 hm.bI hg (fun hs=>by
  rcases hS g hs with e|⟨r,hr,e|e⟩
  ·exact h.pool.out.fU hg e.symm
  ·exact aK hg (h.pool.rings.at_ r hr).bI t1 e
  ·exact aK hg (h.pool.rings.at_ r hr).row t2 e)
theorem jQ.core (h:jQ W b p s) {cs':List Cr} (hm:Mod (fun q=>q=b.gk) W W') (hx:W'.heap[b.gk]?=some (.cells (bD cs') 192 (0,0))) (hl:cs'.length=s.cs.length):jQ W' b p ⟨s.xs,s.rs,s.f,s.took,cs'⟩:=by
 have hS:∀ q,(fun q=>q=b.gk) q→oJ b s q:=fun q e=> .inr (.inl e)
 have fU:∀ {g t:Nat} {c:Array Value},W.heap[g]?=some (.cells c t (0,0))→t≠192→W'.heap[g]?=some (.cells c t (0,0)):=fun hg ht=>hm.bI hg (fun e=>aK hg h.cores ht e)
 exact ⟨by rw [hl];exact fU h.bI (by decide),h.zQ hm hS h.code (by decide),⟨fU h.mem.bI (by decide),h.zQ hm hS h.mem.sizes (by decide),h.zQ hm hS h.mem.begins (by decide),fU h.mem.cblk (by decide),fU h.mem.crow (by decide)⟩,
  ⟨fU h.pool.bI (by decide),fU h.pool.row (by decide),h.pool.rings.step (fun k c t hk ht=>fU hk (by rcases ht with rfl|rfl <;> decide)),h.pool.out.bI (hm.block _ h.pool.out.lt (fun e=>h.pool.out.fU h.cores e)),h.pool.good,h.pool.few,h.pool.small⟩,hx,h.old⟩
theorem jQ.pools (h:jQ W b p s) {n':Nat} {rs':List Rg} {f':Int→Int} {S:Nat→Prop} (hm:Mod S W W') (hS:∀ q,S q→q=b.mb∨∃ r∈s.rs,q=r.b∨q=r.g) (hP:iG W' b.bp b.gr b.cap b.mb p.m n' b.rest rs' f') (hR:∀ r∈rs',∃ r0∈s.rs,r0.b=r.b∧r0.g=r.g):jQ W' b p ⟨s.xs,rs',f',n',s.cs⟩:=by
 have hS':∀ q,S q→oJ b s q:=fun q e=> .inr (.inr (hS q e))
 have fU:∀ {g t:Nat} {c:Array Value},W.heap[g]?=some (.cells c t (0,0))→t≠284→t≠22→W'.heap[g]?=some (.cells c t (0,0)):=fun {g t c} hg t1 t2=>hm.bI hg (fun hs=>by
  rcases hS g hs with e|⟨r,hr,e|e⟩
  ·exact h.pool.out.fU hg e.symm
  ·exact aK hg (h.pool.rings.at_ r hr).bI t1 e
  ·exact aK hg (h.pool.rings.at_ r hr).row t2 e)
 refine ⟨fU h.bI (by decide) (by decide),h.zQ hm hS' h.code (by decide),⟨fU h.mem.bI (by decide) (by decide),h.zQ hm hS' h.mem.sizes (by decide),h.zQ hm hS' h.mem.begins (by decide),fU h.mem.cblk (by decide) (by decide),fU h.mem.crow (by decide) (by decide)⟩,hP,fU h.cores (by decide) (by decide),fun q hq=>?_⟩
 rcases hq with e|e|e|⟨r,hr,e⟩
 ·exact h.old q (.inl e)
 ·exact h.old q (.inr (.inl e))
 ·exact h.old q (.inr (.inr (.inl e)))
 ·obtain ⟨r0,h0,e1,e2⟩:=hR r hr
  exact h.old q (.inr (.inr (.inr ⟨r0,h0,by rw [e1,e2];exact e⟩)))
def XJ (W:World) (b:XB) (q:Nat):Prop:=∃ c t,W.heap[q]?=some (.cells c t (0,0))∧(t=136∨t=192∧q≠b.gk)
theorem XJ.ne {q g t:Nat} {c:Array Value} (h:XJ W b q) (hg:W.heap[g]?=some (.cells c t (0,0))) (ht:t≠136) (h2:t≠192∨g=b.gk):q≠g:=fun e=>by
 obtain ⟨c',t',h0,h1⟩:=h
 subst e
 rw [hg] at h0
 injection h0 with h0
 injection h0 with _ h0
 subst h0
 rcases h1 with h1|⟨h1,h3⟩
 ·exact ht h1
 ·rcases h2 with h2|h2
  ·exact h2 h1
  ·exact h3 h2
theorem jQ.priv (h:jQ W b p s) {S:Nat→Prop} (hm:Mod S W W') (hS:∀ q,S q→XJ W b q):jQ W' b p s:=by
 have fU:∀ {q t:Nat} {c:Array Value},W.heap[q]?=some (.cells c t (0,0))→t≠136→(t≠192∨q=b.gk)→W'.heap[q]?=some (.cells c t (0,0)):=fun hq ht h2=>hm.bI hq (fun hs=>(hS _ hs).ne hq ht h2 rfl)
 have farR:∀ {α:Type} {d:Kd α} {e B:Nat} {v:Value} {ys:List α},Kd.R d e W B (fun _=>True) v ys→(∀ y,y∈e :: d.E→y≠136∧y≠192)→Kd.R d e W' B (fun _=>True) v ys:=fun hr ht=>iT hr hm (fun q hq=>by
  obtain ⟨c,t,h0,h1⟩:=hS q hq
  exact ⟨c,t,h0,fun y hy e=>by subst e;rcases h1 with h1|h1;exact (ht _ hy).1 h1;exact (ht _ hy).2 h1.1⟩)
 exact ⟨fU h.bI (by decide) (.inl (by decide)),farR h.code (by decide),⟨fU h.mem.bI (by decide) (.inl (by decide)),farR h.mem.sizes (by decide),farR h.mem.begins (by decide),fU h.mem.cblk (by decide) (.inl (by decide)),fU h.mem.crow (by decide) (.inl (by decide))⟩,
  ⟨fU h.pool.bI (by decide) (.inl (by decide)),fU h.pool.row (by decide) (.inl (by decide)),h.pool.rings.step (fun k c t hk ht=>fU hk (by rcases ht with rfl|rfl <;> decide) (.inl (by rcases ht with rfl|rfl <;> decide))),h.pool.out.bI (hm.block _ h.pool.out.lt (fun hs=>by obtain ⟨c,t,h0,_⟩:=hS _ hs;exact h.pool.out.fU h0 rfl)),h.pool.good,h.pool.few,h.pool.small⟩,fU h.cores (by decide) (.inr rfl),h.old⟩
theorem jQ.nE (h:jQ W b p s) {g:Nat} {c:Array Value} (hg:W.heap[g]?=some (.cells c 136 (0,0))) (hm:Mod (fun q=>q=g) W W'):jQ W' b p s:=h.priv hm (fun q hq=>by subst hq;exact ⟨_,_,hg,.inl rfl⟩)
theorem jQ.U2 (h:jQ W b p s) {g j:Nat} {c:Array Value} (hg:W.heap[g]?=some (.cells c 192 (0,0))) (hn:g≠b.gk) (v:Value):jQ (W.setCell ⟨g,j,none⟩ v) b p s:=h.priv (S:=fun q=>q=g) ((Mod.refl (fun q=>q=g) W).setCell (p:=⟨g,j,none⟩) rfl v) (fun q hq=>by subst hq;exact ⟨_,_,hg,.inr ⟨rfl,hn⟩⟩)
theorem jQ.accs (h:jQ W b p s) {xs':List Int} {S:Nat→Prop} (hm:Mod S W W') (hS:∀ q,S q→q=b.gc∨XJ W b q) (hx:W'.heap[b.gc]?=some (.cells (cU xs') 314 (0,0))) (hl:xs'.length=s.xs.length):jQ W' b p ⟨xs',s.rs,s.f,s.took,s.cs⟩:=by
 have fU:∀ {q t:Nat} {c:Array Value},W.heap[q]?=some (.cells c t (0,0))→t≠136→t≠314→(t≠192∨q=b.gk)→W'.heap[q]?=some (.cells c t (0,0)):=fun {q t c} hq ht h1 h2=>hm.bI hq (fun hs=>(hS _ hs).elim (fun e=>aK hq h.mem.crow h1 e) (fun hp=>hp.ne hq ht h2 rfl))
 have farR:∀ {α:Type} {d:Kd α} {e B:Nat} {v:Value} {ys:List α},Kd.R d e W B (fun _=>True) v ys→(∀ y,y∈e :: d.E→y≠136∧y≠192∧y≠314)→Kd.R d e W' B (fun _=>True) v ys:=fun hr ht=>iT hr hm (fun q hq=>by
  rcases hS q hq with e|⟨c,t,h0,h1⟩
  ·subst e
   exact ⟨_,_,h.mem.crow,fun y hy=>(ht y hy).2.2⟩
  ·exact ⟨c,t,h0,fun y hy e=>by subst e;rcases h1 with h1|h1;exact (ht _ hy).1 h1;exact (ht _ hy).2.1 h1.1⟩)
 exact ⟨fU h.bI (by decide) (by decide) (.inl (by decide)),farR h.code (by decide),⟨fU h.mem.bI (by decide) (by decide) (.inl (by decide)),farR h.mem.sizes (by decide),farR h.mem.begins (by decide),by rw [hl];exact fU h.mem.cblk (by decide) (by decide) (.inl (by decide)),hx⟩,
  ⟨fU h.pool.bI (by decide) (by decide) (.inl (by decide)),fU h.pool.row (by decide) (by decide) (.inl (by decide)),h.pool.rings.step (fun k c t hk ht=>fU hk (by rcases ht with rfl|rfl <;> decide) (by rcases ht with rfl|rfl <;> decide) (.inl (by rcases ht with rfl|rfl <;> decide))),h.pool.out.bI (hm.block _ h.pool.out.lt (fun hs=>by
   rcases hS _ hs with e|⟨c,t,h0,_⟩
   ·exact h.pool.out.fU h.mem.crow e
   ·exact h.pool.out.fU h0 rfl)),h.pool.good,h.pool.few,h.pool.small⟩,fU h.cores (by decide) (by decide) (.inr rfl),h.old⟩
end
theorem E6 {α:Type} (l:List α) (t:Nat) (ht:t<l.length):l.set t l[t]=l:=by
 refine List.ext_getElem? fun i=>?_
 rw [List.getElem?_set]
 split
 ·rename_i h;subst h;simp [ht]
 ·rfl
theorem CD (bp gr cap mb m n:Nat) (rest:List Value) (rs:List Rg) (f:Int→Int) (h:Nat) (w:World) (hp:iG w bp gr cap mb m n rest rs f) (h0:0<h) (h1:h<4294967296) (t:Nat) (ht:t<rs.length) (hf:f h=(t:Int)+1):
  Calls Tryz.prog 125 #[.pointer (some ⟨bp,0,none⟩),.int .u32 (h:Int)] w fun e w'=>e= .returned (.int .i64 0)∧Mod (fun k=>k=rs[t].b∨k=rs[t].g∨k=mb) w w'∧iG w' bp gr cap mb m n rest (rs.set t (oB m rs[t] (eR h))) (jT f h 0):=by
 unfold oB
 have hg:=(hp.good _ (List.getElem_mem ht)).1
 by_cases hr:rs[t].n<m
 ·rw [if_pos hr]
  exact wL bp gr cap mb m n rest rs f h w hp h0 h1 t ht hf hr
 ·rw [if_neg hr,E6 rs t ht]
  exact yM bp gr cap mb m n rest rs f h w hp h0 h1 t ht hf (by omega)
structure sP (p:dU) (s:XS):Prop where
 good:vS p p.r7.length
 ins:∀ i∈p.l,okX i
 nc:s.cs.length=p.r7.length
 nr:s.rs.length=p.r7.length
 nx:s.xs.length=p.xs.length
 cs:∀ c∈s.cs,c.ok
 xs:∀ x∈s.xs,0≤x∧x<4294967296
 hs:∀ r∈s.rs,∀ x∈r.xs,0≤x∧x<4294967296
 ring:∀ r∈s.rs,r.n≤p.m∧(0<p.m→r.first<p.m)∧r.xs.length=p.m
 who:∀ h,0≤s.f h∧s.f h≤s.rs.length
theorem qH {w:World} {B n cap:Nat} {A:Option Addr} {l:List dA} (h:Kd.R e9 214 w B (fun _=>True) (.slice A n cap) l) (i:Int) (h0:0≤i) (h1:i<l.length):∃ cg cur,A=some ⟨cg,0,none⟩∧w.heap[cg]?=some (.cells cur 214 (0,0))∧cur[i.toNat*8]?=some (.int .i64 (bJ l i).op)∧cur[i.toNat*8+1]?=some (.int .i64 (bJ l i).d)∧cur[i.toNat*8+2]?=some (.int .i64 (bJ l i).s)∧cur[i.toNat*8+3]?=some (.int .i64 (bJ l i).t)∧cur[i.toNat*8+4]?=some (.int .i64 (bJ l i).u)∧cur[i.toNat*8+5]?=some (.int .i64 (bJ l i).a)∧cur[i.toNat*8+6]?=some (.int .u32 (bJ l i).k)∧cur[i.toNat*8+7]?=some (.int .i64 (bJ l i).to_):=by
 obtain ⟨hn,hc,hC⟩:=Kd.dC h
 obtain ⟨h0',inner,ho,hr⟩:=h
 obtain ⟨ad,hA,x⟩:=L0 hC i h0 h1
 rcases ho.2 with ⟨e,_⟩|⟨g,cp,cur,e,hg,hh,_⟩
 ·injection e with e _ _
  rw [e] at hA;cases hA
 ·injection e with e _ _
  rw [e] at hA
  injection hA with hA
  subst hA
  have z:∀ o,w.cell? ⟨g,o,none⟩=cur[o]?:=fun o=>aC hh o
  have ea:(⟨g,0,none⟩:Addr).add (i.toNat*8)=⟨g,i.toNat*8,none⟩:=by
   unfold Addr.add
   split
   ·rename_i h8;rw [h8]
   ·simp
  rw [ea] at x
  simp only [z] at x
  exact ⟨g,cur,e,hh,x⟩
theorem pI {l:List Int} (h:∀ x∈l,0≤x∧x<4294967296) (i:Nat):0≤l.getD i 0∧l.getD i 0<4294967296:=by
 rw [List.getD_eq_getElem?_getD]
 by_cases hi:i<l.length
 ·rw [List.getElem?_eq_getElem hi];exact h _ (List.getElem_mem hi)
 ·rw [List.getElem?_eq_none (by omega)];exact ⟨by decide,by decide⟩
theorem H5 (b:XB) (p:dU) (s:XS) (t:Nat) (late:Bool) (w:World) (h:jQ w b p s) (ho:sP p s) (ht:t<s.cs.length) (hg:0≤s.cs[t].pc∧s.cs[t].pc<p.l.length) (hm:16≤(bJ p.l s.cs[t].pc).op∧(bJ p.l s.cs[t].pc).op≤23) (hk:s.took<maxLen) (hop:(bJ p.l s.cs[t].pc).op=22):
  Calls Tryz.prog 65 #[.pointer (some ⟨b.be,0,none⟩),.int .i64 (t:Int),.bool late] w fun e w'=>
   ∃ v,e= .returned (.agg #[v,.int .i64 (bR p s t late).1.dn,.int .i64 (bR p s t late).1.addr,.bool (bR p s t late).1.wr,.bool (bR p s t late).1.st,.int .i64 (bR p s t late).1.er])∧Kd.R (Kd.int .i64) 3 w' w.heap.size (fun _=>True) v (bR p s t late).1.marks∧Mod (oJ b s) w w'∧jQ w' b p (bR p s t late).2:=by
 have H:=aA.mk h
 have HO:=aA.mk ho
 have HT:=aA.mk ht
 have HG:=aA.mk hg
 have HM:=aA.mk hm
 have HOP:=aA.mk hop
 obtain ⟨⟨k0,k1,k2,k3,k4,k5,k6,k7,k8⟩,j0,j1,j2,j3,j4,j5,j6,j7,j8⟩:=kH h.cores ht
 have b5:=(aC h.bI 5).trans rfl
 have zb:=aZ h.bI
 have zk:=aZ h.cores
 have i0:(0:Int)≤(t:Int):=by omega
 have i1:(t:Int)<(s.cs.length:Int):=by omega
 have i2:(s.cs.length:Int)≤64:=by have:=ho.nc;have:=ho.good.n64;omega
 obtain ⟨c,hc⟩:∃ c,c=s.cs[t]:=⟨_,rfl⟩
 have HC:=aA.mk hc
 rw [← hc] at HG HM HOP k0 k1 k2 k3 k4 k5 k6 k7 k8
 obtain ⟨cg,cur,hA,CG,x0,x1,x2,x3,x4,x5,x6,x7⟩:=qH h.code c.pc HG.out.1 HG.out.2
 obtain ⟨i,hi⟩:∃ i,i=bJ p.l c.pc:=⟨_,rfl⟩
 have HI:=aA.mk hi
 have HX:=aA.mk (⟨x0,x1,x2,x3,x4,x5,x6,x7⟩:_∧_∧_∧_∧_∧_∧_∧_)
 have NG:=aA.mk CG
 rw [← hi] at HM HX HOP
 obtain ⟨op,d,si,ti,u,ar,k,to_⟩:=i
 obtain ⟨be,bm,bc,gc,bp,gr,cap,mb,gk,B,A,capl,vs,vb,rest⟩:=b
 dsimp only at k0 k1 k2 k3 k4 k5 k6 k7 k8 HM HOP HX hA zb zk b5 CG
 subst hA
 have HB:=aA.mk h.bI
 dsimp only at HB
 clear h ho hg hm hop hc hi x0 x1 x2 x3 x4 x5 x6 x7 CG
 obtain ⟨r0,r1,r2,r3,r4,r5,r6,r7,pc⟩:=c
 dsimp only at k0 k1 k2 k3 k4 k5 k6 k7 k8 HG HM HX HI
 go_enter Tryz.func65,Tryz.ntmps65
 go_wp2_with fail
 have hbl:=mM w (.cells #[.slice none 0 0,.int .i64 0,.int .i64 0,.bool false,.bool false,.int .i64 0] 136) (.cells #[.int .u32 r0,.int .u32 r1,.int .u32 r2,.int .u32 r3,.int .u32 r4,.int .u32 r5,.int .u32 r6,.int .u32 r7,.int .i64 pc] 192) (.cells #[.slice none 0 0,.int .i64 (-1),.int .i64 (-1),.bool false,.bool false,.int .i64 11] 136)
 have n6:=aA.mk hbl.1
 have n7:=aA.mk hbl.2.1
 have n8:=aA.mk hbl.2.2
 have HW:=aA.mk (show Below w.heap.size w (((w.alloc _).alloc _).alloc _) from aD (aD (aD (Below.refl w.heap.size w) (.cells #[.slice none 0 0,.int .i64 0,.int .i64 0,.bool false,.bool false,.int .i64 0] 136)) (.cells #[.int .u32 r0,.int .u32 r1,.int .u32 r2,.int .u32 r3,.int .u32 r4,.int .u32 r5,.int .u32 r6,.int .u32 r7,.int .i64 pc] 192)) (.cells #[.slice none 0 0,.int .i64 (-1),.int .i64 (-1),.bool false,.bool false,.int .i64 11] 136))
 clear hbl
 generalize (((w.alloc (.cells #[.slice none 0 0,.int .i64 0,.int .i64 0,.bool false,.bool false,.int .i64 0] 136)).alloc (.cells #[.int .u32 r0,.int .u32 r1,.int .u32 r2,.int .u32 r3,.int .u32 r4,.int .u32 r5,.int .u32 r6,.int .u32 r7,.int .i64 pc] 192)).alloc (.cells #[.slice none 0 0,.int .i64 (-1),.int .i64 (-1),.bool false,.bool false,.int .i64 11] 136))=w1 at n6 n7 n8 HW ⊢
 have nb:=aA.mk (aE HB.out HW.out)
 have ng:=aA.mk (aE NG.out HW.out)
 clear k0 k1 k2 k3 k4 k5 k6 k7 k8 j0 j1 j2 j3 j4 j5 j6 j7 j8 b5 zb zk
 have e0:decide (pc<0)=false:=decide_eq_false (by have:=HG.out;omega)
 have e1:decide ((p.l.length:Int)≤pc)=false:=decide_eq_false (by have:=HG.out;omega)
 have g0:=HG.out.1
 have g1:=HG.out.2
 have l64:(p.l.length:Int)≤64:=by have:=HO.out.good.l64;omega
 have PM:=aA.mk (fun W=>(mP ⟨op,d,si,ti,u,ar,k,to_⟩ W).mono (R':=fun e w'=>e= .returned (.bool true)∧Below W.heap.size W w') (fun e w' hh=>⟨by rw [hh.1,decide_eq_true HM.out],hh.2⟩))

 refine dB (n:=27) (S:=fun w'=>w'.heap[w.heap.size+1]?=some (.cells #[.int .u32 r0,.int .u32 r1,.int .u32 r2,.int .u32 r3,.int .u32 r4,.int .u32 r5,.int .u32 r6,.int .u32 r7,.int .i64 pc] 192 (0,0))∧w'.heap[be]?=some (.cells #[.slice (some ⟨cg,0,none⟩) p.l.length capl,.int .i64 p.lo,.int .i64 p.un,.pointer (some ⟨bm,0,none⟩),.pointer (some ⟨bp,0,none⟩),.slice (some ⟨gk,0,none⟩) s.cs.length s.cs.length] 149 (0,0))∧w'.heap[cg]?=some (.cells cur 214 (0,0))) (ds:= []) #[false,false,false,false,false,false,false,false,false,false,false,false,false,false,false,false,false,false,false,false,false,false,false,false,false,false,false] (by kernel_rfl) rfl rfl ⟨n7.out,nb.out,ng.out⟩ (fun hHeld=>?_)
 replace n6:=aA.mk (drew_ n6.out)
 replace n7:=aA.mk (drew_ n7.out)
 replace n8:=aA.mk (drew_ n8.out)
 replace nb:=aA.mk (drew_ nb.out)
 replace ng:=aA.mk (drew_ ng.out)
 replace HW:=aA.mk (bG HW.out)
 generalize w1.drew=w2 at n6 n7 n8 nb ng HW hHeld ⊢
 refine pur_ 0 22 ?_
 refine tak_ 1 23 (.int .i64 pc) ?_ hHeld ?_
 ·intro w' hS
  have c8:=(aC hS.1 8).trans rfl
  clear hHeld hS
  go_simp
 refine pur_ 2 24 ?_
 refine pur_ 3 25 ?_
 refine pur_ 4 26 ?_
 refine pur_ 6 28 ?_
 refine pur_ 7 29 ?_
 refine pur_ 8 30 ?_
 refine pur_ 9 31 ?_
 refine tak_ 5 27 (.int .i64 pc) ?_ hHeld ?_
 ·intro w' hS
  have c8:=(aC hS.1 8).trans rfl
  clear hHeld hS
  go_simp
 refine tak_ 10 32 (.slice (some ⟨cg,0,none⟩) p.l.length capl) ?_ hHeld ?_
 ·intro w' hS
  have c0:=(aC hS.2.1 0).trans rfl
  clear hHeld hS
  go_simp
 refine pur_ 11 33 ?_
 refine pur_ 12 34 ?_
 refine pur_ 13 35 ?_
 refine pur_ 14 36 ?_
 refine pur_ 15 37 ?_
 refine pur_ 16 38 ?_
 refine pur_ 17 39 ?_
 refine pur_ 18 40 ?_
 refine pur_ 20 42 ?_
 refine tak_ 19 41 (.slice (some ⟨cg,0,none⟩) p.l.length capl) ?_ hHeld ?_
 ·intro w' hS
  have c0:=(aC hS.2.1 0).trans rfl
  clear hHeld hS
  go_simp
 refine tak_ 21 43 (.int .i64 pc) ?_ hHeld ?_
 ·intro w' hS
  have c8:=(aC hS.1 8).trans rfl
  clear hHeld hS
  go_simp
 refine pur_ 22 44 ?_
 refine tak_ 23 45 (.agg #[.int .i64 op,.int .i64 d,.int .i64 si,.int .i64 ti,.int .i64 u,.int .i64 ar,.int .u32 k,.int .i64 to_]) ?_ hHeld ?_
 ·intro w' hS
  have y0:=(aC hS.2.2 (pc.toNat*8)).trans HX.out.1
  have y1:=(aC hS.2.2 (pc.toNat*8+1)).trans HX.out.2.1
  have y2:=(aC hS.2.2 (pc.toNat*8+2)).trans HX.out.2.2.1
  have y3:=(aC hS.2.2 (pc.toNat*8+3)).trans HX.out.2.2.2.1
  have y4:=(aC hS.2.2 (pc.toNat*8+4)).trans HX.out.2.2.2.2.1
  have y5:=(aC hS.2.2 (pc.toNat*8+5)).trans HX.out.2.2.2.2.2.1
  have y6:=(aC hS.2.2 (pc.toNat*8+6)).trans HX.out.2.2.2.2.2.2.1
  have y7:=(aC hS.2.2 (pc.toNat*8+7)).trans HX.out.2.2.2.2.2.2.2
  clear hHeld hS
  go_simp
 refine on_ 24 46 (fun K hK=>?_)
 refine goe_ Tryz.func123 #[.agg #[.int .i64 op,.int .i64 d,.int .i64 si,.int .i64 ti,.int .i64 u,.int .i64 ar,.int .u32 k,.int .i64 to_]] ?_
 refine (PM.out _).mono ?_
 rintro e w9 ⟨rfl,hb⟩
 refine ⟨_,rfl,?_⟩
 replace n6:=aA.mk (aE n6.out hb)
 replace n7:=aA.mk (aE n7.out hb)
 replace n8:=aA.mk (aE n8.out hb)
 replace nb:=aA.mk (aE nb.out hb)
 replace ng:=aA.mk (aE ng.out hb)
 replace HW:=aA.mk (bA HW.out hb)
 clear hb hHeld
 refine hK.out _ _ ⟨n7.out,nb.out,ng.out⟩ (fun hHeld=>?_)
 clear hK K
 refine nor_ ?_
 refine pur_ 25 47 ?_
 refine pur_ 26 48 ?_
 refine eO (by kernel_rfl) ?_
 go_wp2_with fail
 clear PM e0 e1
 have c8:w9.cell? ⟨w.heap.size+1,8,none⟩=some (.int .i64 pc):=(aC n7.out 8).trans rfl
 have c0:w9.cell? ⟨be,0,none⟩=some (.slice (some ⟨cg,0,none⟩) p.l.length capl):=(aC nb.out 0).trans rfl

 have y0:=(aC ng.out (pc.toNat*8)).trans HX.out.1
 have y1:=(aC ng.out (pc.toNat*8+1)).trans HX.out.2.1
 have y2:=(aC ng.out (pc.toNat*8+2)).trans HX.out.2.2.1
 have y3:=(aC ng.out (pc.toNat*8+3)).trans HX.out.2.2.2.1
 have y4:=(aC ng.out (pc.toNat*8+4)).trans HX.out.2.2.2.2.1
 have y5:=(aC ng.out (pc.toNat*8+5)).trans HX.out.2.2.2.2.2.1
 have y6:=(aC ng.out (pc.toNat*8+6)).trans HX.out.2.2.2.2.2.2.1
 have y7:=(aC ng.out (pc.toNat*8+7)).trans HX.out.2.2.2.2.2.2.2
 have z1:=aZ n7.out
 have z2:=aZ nb.out
 have z3:=aZ ng.out
 go_region
 obtain ⟨X,hX⟩:∃ X,X=w9.heap.size:=⟨_,rfl⟩
 have n9:=aA.mk (show (w9.alloc (.cells #[.int .i64 op,.int .i64 d,.int .i64 si,.int .i64 ti,.int .i64 u,.int .i64 ar,.int .u32 k,.int .i64 to_] 214)).drew.heap[X]?=some (.cells #[.int .i64 op,.int .i64 d,.int .i64 si,.int .i64 ti,.int .i64 u,.int .i64 ar,.int .u32 k,.int .i64 to_] 214 (0,0)) from by rw [hX];exact bF w9 _)
 have m6:=aA.mk (show (w9.alloc (.cells #[.int .i64 op,.int .i64 d,.int .i64 si,.int .i64 ti,.int .i64 u,.int .i64 ar,.int .u32 k,.int .i64 to_] 214)).drew.heap[w.heap.size]?=some _ from aV n6.out _)
 have m7:=aA.mk (show (w9.alloc (.cells #[.int .i64 op,.int .i64 d,.int .i64 si,.int .i64 ti,.int .i64 u,.int .i64 ar,.int .u32 k,.int .i64 to_] 214)).drew.heap[w.heap.size+1]?=some _ from aV n7.out _)
 have m8:=aA.mk (show (w9.alloc (.cells #[.int .i64 op,.int .i64 d,.int .i64 si,.int .i64 ti,.int .i64 u,.int .i64 ar,.int .u32 k,.int .i64 to_] 214)).drew.heap[w.heap.size+1+1]?=some _ from aV n8.out _)
 have m9:=aA.mk (show Below w.heap.size w (w9.alloc (.cells #[.int .i64 op,.int .i64 d,.int .i64 si,.int .i64 ti,.int .i64 u,.int .i64 ar,.int .u32 k,.int .i64 to_] 214)).drew from bG (aD HW.out _))
 have z4:w.heap.size+1+1<X:=by rw [hX];exact aZ n8.out
 rw [← hX]
 clear n6 n7 n8 nb ng HW c8 c0 y0 y1 y2 y3 y4 y5 y6 y7 z1 z2 z3 hX
 generalize (w9.alloc (.cells #[.int .i64 op,.int .i64 d,.int .i64 si,.int .i64 ti,.int .i64 u,.int .i64 ar,.int .u32 k,.int .i64 to_] 214)).drew=w10 at n9 m6 m7 m8 m9 ⊢
 have c8:=(aC m7.out 8).trans rfl
 have f8:=aG m7.out 8
 have hs:wrap64 (pc+1)=pc+1:=by unfold wrap64;omega

 obtain rfl:=HOP.out
 clear HOP
 ·have c9:=(aC n9.out 0).trans rfl
  have zX:=aZ n9.out
  have nX:X≠w.heap.size+1:=by omega
  go_wp2_with fail
  clear c9 zX nX
  obtain ⟨Y,hY⟩:∃ Y,Y=w10.heap.size:=⟨_,rfl⟩
  have q6:=aA.mk (show ((w10.setCell ⟨w.heap.size+1,8,none⟩ (.int .i64 (pc+1))).alloc (.cells #[.slice none 0 0,.int .i64 0,.int .i64 (-1),.bool false,.bool false,.int .i64 0] 136)).heap[w.heap.size]?=some (.cells #[.slice none 0 0,.int .i64 0,.int .i64 0,.bool false,.bool false,.int .i64 0] 136 (0,0)) from aV (bB (p:=⟨w.heap.size+1,8,none⟩) m6.out (by simp) _) _)
  have q7:=aA.mk (show ((w10.setCell ⟨w.heap.size+1,8,none⟩ (.int .i64 (pc+1))).alloc (.cells #[.slice none 0 0,.int .i64 0,.int .i64 (-1),.bool false,.bool false,.int .i64 0] 136)).heap[w.heap.size+1]?=some (.cells #[.int .u32 r0,.int .u32 r1,.int .u32 r2,.int .u32 r3,.int .u32 r4,.int .u32 r5,.int .u32 r6,.int .u32 r7,.int .i64 (pc+1)] 192 (0,0)) from aV ((bE m7.out 8 _).trans rfl) _)
  have q8:=aA.mk (show ((w10.setCell ⟨w.heap.size+1,8,none⟩ (.int .i64 (pc+1))).alloc (.cells #[.slice none 0 0,.int .i64 0,.int .i64 (-1),.bool false,.bool false,.int .i64 0] 136)).heap[w.heap.size+1+1]?=some (.cells #[.slice none 0 0,.int .i64 (-1),.int .i64 (-1),.bool false,.bool false,.int .i64 11] 136 (0,0)) from aV (bB (p:=⟨w.heap.size+1,8,none⟩) m8.out (by simp) _) _)
  have q9:=aA.mk (show ((w10.setCell ⟨w.heap.size+1,8,none⟩ (.int .i64 (pc+1))).alloc (.cells #[.slice none 0 0,.int .i64 0,.int .i64 (-1),.bool false,.bool false,.int .i64 0] 136)).heap[X]?=some (.cells #[.int .i64 22,.int .i64 d,.int .i64 si,.int .i64 ti,.int .i64 u,.int .i64 ar,.int .u32 k,.int .i64 to_] 214 (0,0)) from aV (bB (p:=⟨w.heap.size+1,8,none⟩) n9.out (by intro e;dsimp only at e;omega) _) _)
  have qY:=aA.mk (show ((w10.setCell ⟨w.heap.size+1,8,none⟩ (.int .i64 (pc+1))).alloc (.cells #[.slice none 0 0,.int .i64 0,.int .i64 (-1),.bool false,.bool false,.int .i64 0] 136)).heap[Y]?=some (.cells #[.slice none 0 0,.int .i64 0,.int .i64 (-1),.bool false,.bool false,.int .i64 0] 136 (0,0)) from by have:=bF (w10.setCell ⟨w.heap.size+1,8,none⟩ (.int .i64 (pc+1))) (.cells #[.slice none 0 0,.int .i64 0,.int .i64 (-1),.bool false,.bool false,.int .i64 0] 136);rw [hY];simpa using this)
  have HW:=aA.mk (show Below w.heap.size w ((w10.setCell ⟨w.heap.size+1,8,none⟩ (.int .i64 (pc+1))).alloc (.cells #[.slice none 0 0,.int .i64 0,.int .i64 (-1),.bool false,.bool false,.int .i64 0] 136)) from aD (bM (j:=8) m9.out (by omega)) _)
  have zY:X<Y:=by rw [hY];exact aZ n9.out
  try simp only [World.size_setCell] at*
  rw [← hY]
  clear n9 m6 m7 m8 m9 c8 f8 hs hY
  generalize ((w10.setCell ⟨w.heap.size+1,8,none⟩ (.int .i64 (pc+1))).alloc (.cells #[.slice none 0 0,.int .i64 0,.int .i64 (-1),.bool false,.bool false,.int .i64 0] 136))=w11 at q6 q7 q8 q9 qY HW ⊢
  have HE:=aA.mk (H.out.below HW.out)
  have ht':t<s.rs.length:=by have:=HO.out.nr;have:=HO.out.nc;omega
  have HM0:=HM
  clear HM
  obtain ⟨dn,rfl⟩:=Int.eq_ofNat_of_zero_le (show 0≤d from by have:=(HO.out.ins _ (iZ HG.out.1 HG.out.2)).ok.d;rw [← HI.out] at this;exact this.1)
  have d8:dn<8:=by have:=(HO.out.ins _ (iZ HG.out.1 HG.out.2)).ok.d;rw [← HI.out] at this;have:=this.2;dsimp only at this;omega
  have dI:(dn:Int)<8:=by omega
  have dJ:(0:Int)≤(dn:Int):=by omega
  have hc0:s.cs.getD t Cr.zero=⟨r0,r1,r2,r3,r4,r5,r6,r7,pc⟩:=by rw [List.getD_eq_getElem?_getD,List.getElem?_eq_getElem HT.out,Option.getD_some];exact HC.out.symm
  have hr0:s.rs.getD t nP=s.rs[t]:=by rw [List.getD_eq_getElem?_getD,List.getElem?_eq_getElem ht',Option.getD_some]
  have cok1:Cr.ok ⟨r0,r1,r2,r3,r4,r5,r6,r7,pc+1⟩:=by have:=HO.out.cs _ (List.getElem_mem HT.out);rw [← HC.out] at this;exact this
  have nb:=aA.mk HE.out.bI
  dsimp only at nb
  have HM:=aA.mk ((Mod.jE HW.out).mono (T:=oJ ⟨be,bm,bc,gc,bp,gr,cap,mb,gk,B,some ⟨cg,0,none⟩,capl,vs,vb,rest⟩ s) (fun _ _ hf=>hf.elim))
  have ngk:w.heap.size+1≠gk:=by have:=aZ H.out.cores;dsimp only at this;omega
  clear HW q8
  by_cases hr:s.rs[t].n=0
  ·have PT:=aA.mk (fun W (hW:iG W bp gr cap mb p.m s.took rest s.rs s.f)=>(yJ bp gr cap mb p.m s.took rest s.rs s.f t W hW ht' hr).mono (R':=fun e w'=>e= .returned (.tuple #[.int .u32 0,.int .i64 0])∧Below W.heap.size W w') (fun e w' hh=>⟨hh.1,by rw [hh.2];exact Below.refl _ _⟩))
   have HXS:=aA.mk (show bR p s t late=dH p s t (Cr.set ⟨r0,r1,r2,r3,r4,r5,r6,r7,pc+1⟩ dn 0) (-1) false from by
    unfold bR
    rw [hc0]
    dsimp only
    rw [← HI.out,if_neg (fun hh=>hh HG.out),if_neg (fun hh=>hh HM0.out),if_pos rfl,hr0,if_pos hr]
    rfl)
   refine dB (n:=14) (S:=fun w'=>w'.heap[X]?=some (.cells #[.int .i64 22,.int .i64 (dn:Int),.int .i64 si,.int .i64 ti,.int .i64 u,.int .i64 ar,.int .u32 k,.int .i64 to_] 214 (0,0))∧w'.heap[be]?=some (.cells #[.slice (some ⟨cg,0,none⟩) p.l.length capl,.int .i64 p.lo,.int .i64 p.un,.pointer (some ⟨bm,0,none⟩),.pointer (some ⟨bp,0,none⟩),.slice (some ⟨gk,0,none⟩) s.cs.length s.cs.length] 149 (0,0))) (ds:= [13]) #[false,false,false,false,false,false,false,false,false,false,false,false,false,false] (by kernel_rfl) rfl rfl ⟨q9.out,nb.out⟩ (fun hHeld=>?_)
   replace q6:=aA.mk (drew_ q6.out)
   replace q7:=aA.mk (drew_ q7.out)
   replace q9:=aA.mk (drew_ q9.out)
   replace qY:=aA.mk (drew_ qY.out)
   replace nb:=aA.mk (drew_ nb.out)
   replace HE:=aA.mk (HE.out.below (bG (Below.refl _ _)))
   replace HM:=aA.mk (HM.out.drew)
   generalize w11.drew=w2 at q6 q7 q9 qY nb HE HM hHeld ⊢
   refine pur_ 0 101 ?_
   refine pur_ 2 103 ?_
   refine pur_ 3 104 ?_
   refine pur_ 4 105 ?_
   refine pur_ 6 107 ?_
   refine pur_ 11 111 ?_
   refine tak_ 1 102 (.int .i64 (dn:Int)) ?_ hHeld ?_
   ·intro w' hS
    have c1:=(aC hS.1 1).trans rfl
    clear hHeld hS
    go_simp
   refine tak_ 5 106 (.pointer (some ⟨bp,0,none⟩)) ?_ hHeld ?_
   ·intro w' hS
    have c4:=(aC hS.2 4).trans rfl
    clear hHeld hS
    go_simp
   refine on_ 7 108 (fun K hK=>?_)
   refine goe_ Tryz.func124 #[.pointer (some ⟨bp,0,none⟩),.int .i64 (t:Int)] ?_
   refine (PT.out _ HE.out.pool).mono ?_
   rintro e w9 ⟨rfl,hb⟩
   refine ⟨_,rfl,?_⟩
   replace q6:=aA.mk (aE q6.out hb)
   replace q7:=aA.mk (aE q7.out hb)
   replace q9:=aA.mk (aE q9.out hb)
   replace qY:=aA.mk (aE qY.out hb)
   replace nb:=aA.mk (aE nb.out hb)
   replace HE:=aA.mk (HE.out.below hb)
   replace HM:=aA.mk (HM.out.step hb)
   clear hb hHeld
   refine hK.out _ _ ⟨q9.out,nb.out⟩ (fun hHeld=>?_)
   clear hK K
   refine nor_ ?_
   refine pur_ 8 100 ?_
   refine pur_ 9 109 ?_
   refine pur_ 10 110 ?_
   refine pur_ 12 112 ?_
   refine fX (i:=13) (N:=none) #[true,true,true,true,true,true,true,true,true,true,true,true,true,true] rfl rfl (by kernel_rfl) (by decide) (fun K hK=>?_)
   refine iH (w1:=w9.setCell ⟨w.heap.size+1,dn,none⟩ (.int .u32 0)) (by rfl) rfl ?_ ?_
   ·clear hK hHeld
    have cj:=(aC q7.out dn).trans (kE ⟨r0,r1,r2,r3,r4,r5,r6,r7,pc+1⟩ dn d8)
    have fj:=aG q7.out dn
    go_simp
   replace q6:=aA.mk (bB (p:=⟨w.heap.size+1,dn,none⟩) q6.out (by simp) (.int .u32 0))
   replace q9:=aA.mk (bB (p:=⟨w.heap.size+1,dn,none⟩) q9.out (by intro e;dsimp only at e;omega) (.int .u32 0))
   replace qY:=aA.mk (bB (p:=⟨w.heap.size+1,dn,none⟩) qY.out (by intro e;dsimp only at e;omega) (.int .u32 0))
   replace nb:=aA.mk (nb)
   replace HE:=aA.mk (HE.out.U2 (j:=dn) q7.out ngk (.int .u32 0))
   replace q7:=aA.mk ((bE q7.out dn (.int .u32 0)).trans (congrArg (fun z=>some (Obj.cells z 192 (0,0))) (OO ⟨r0,r1,r2,r3,r4,r5,r6,r7,pc+1⟩ dn d8 0)))
   replace HM:=aA.mk (HM.out.trans (show Mod (fun q=>q=w.heap.size+1) w9 (w9.setCell ⟨w.heap.size+1,dn,none⟩ (.int .u32 0)) from (Mod.refl (fun q=>q=w.heap.size+1) w9).setCell (p:=⟨w.heap.size+1,dn,none⟩) rfl _) (fun q hq hs=>by exfalso;omega))
   clear hHeld
   generalize w9.setCell ⟨w.heap.size+1,dn,none⟩ (.int .u32 0)=w3 at q6 q7 q9 qY nb HE HM ⊢
   refine hK.out _ _ ?_
   clear hK K
   refine eO (by kernel_rfl) ?_
   have HMw:=HM
   obtain ⟨c2,hc2⟩:∃ c2,c2=Cr.set ⟨r0,r1,r2,r3,r4,r5,r6,r7,pc+1⟩ dn 0:=⟨_,rfl⟩
   have cok:c2.ok:=by rw [hc2];exact Cr.lC cok1 _ _ (by decide) (by decide)
   rw [← hc2] at q7 HXS
   clear hc2 hc0 hr0
   obtain ⟨a0,a1,a2,a3,a4,a5,a6,a7,ap⟩:=c2
   dsimp only at q7
   have E:=aA.mk (fun W (hE:jQ W ⟨be,bm,bc,gc,bp,gr,cap,mb,gk,B,some ⟨cg,0,none⟩,capl,vs,vb,rest⟩ p s)=>iA be gk capl bm bp (some ⟨cg,0,none⟩) p.l p.lo p.un s.cs t ⟨a0,a1,a2,a3,a4,a5,a6,a7,ap⟩ 0 (-1) 0 false false _ W hE.bI (Kd.dC hE.code).2.2 (Kd.dC hE.code).2.1 HO.out.good.l64 (fun i hi=>(HO.out.ins i hi).ok) hE.cores ht (by have:=HO.out.nc;have:=HO.out.good.n64;omega) cok rfl)
   obtain ⟨x0,x1,x2,x3,x4,x5,x6,x7,x8⟩:=oH q7.out
   obtain ⟨u0,u1,u2,u3,u4,u5⟩:=eM qY.out
   have ng:w.heap.size≠gk:=by have:=aZ H.out.cores;dsimp only at this;omega
   unfold dH at HXS
   revert E HXS
   generalize (go p.l t 256 ⟨a0,a1,a2,a3,a4,a5,a6,a7,ap⟩ [])=rr
   intro HXS E
   obtain ⟨c',ms,dd,er⟩:=rr
   go_wp2_with (go_at_call 128;refine (E.out _ HE.out).mono ?_;rintro e w4 ⟨v,rfl,hR,hm4,hg4⟩;have HV0:=aA.mk (Kd.cT hR HMw.out.size);have HM4:=aA.mk hm4;have HE4:=aA.mk (HE.out.core hm4 hg4 (by simp));have n8:=aA.mk (hm4.bI q6.out ng);clear hR hm4 hg4;obtain ⟨Av,cv,hv,_,_⟩:=Kd.bY HV0.out;subst hv;obtain ⟨y0,z0,y1,z1,y2,z2,y3,z3,y4,z4,y5,z5⟩:=fW n8.out)
   change bodyPost _ _ _ _ _ (iU w4 w.heap.size (.slice Av ms.length cv) (.int .i64 dd) (.int .i64 (-1)) (.bool false) (.bool false) (.int .i64 er))
   have M8:=fR w4 w.heap.size (.slice Av ms.length cv) (.int .i64 dd) (.int .i64 (-1)) (.bool false) (.bool false) (.int .i64 er)
   have p8:=eY n8.out (.slice Av ms.length cv) (.int .i64 dd) (.int .i64 (-1)) (.bool false) (.bool false) (.int .i64 er)
   have HVF:=iT HV0.out M8 (fun q hq=>by rcases hq with rfl;exact ⟨_,_,n8.out,by decide⟩)
   have HEF:=HE4.out.nE n8.out M8
   have MF:=((HMw.out.trans HM4.out (fun q _ hs=> .inr (.inl hs))).trans M8 (fun q hq hs=>by exfalso;omega))
   generalize iU w4 w.heap.size (.slice Av ms.length cv) (.int .i64 dd) (.int .i64 (-1)) (.bool false) (.bool false) (.int .i64 er)=WF at p8 HVF HEF MF ⊢
   obtain ⟨v0,v1,v2,v3,v4,v5⟩:=eM p8
   exact bodyPost_ret (v:= .agg #[.slice Av ms.length cv,.int .i64 dd,.int .i64 (-1),.bool false,.bool false,.int .i64 er]) (by simp [results,Tryz.results65,go_sem, *]) rfl (by rw [HXS.out];exact ⟨_,rfl,HVF,MF,HEF⟩)
  ·have PT:=aA.mk (fun W (hW:iG W bp gr cap mb p.m s.took rest s.rs s.f)=>wO bp gr cap mb p.m s.took rest s.rs s.f t W hW ht' (by omega) (pI (HO.out.hs _ (List.getElem_mem ht')) _) hk)
   have hh:=pI (HO.out.hs _ (List.getElem_mem ht')) s.rs[t].first
   have HXS:=aA.mk (show bR p s t late=dH p ⟨s.xs,s.rs.set t (lB p.m s.rs[t]),jT s.f (s.rs[t].xs.getD s.rs[t].first 0) ((t:Int)+1),s.took+1,s.cs⟩ t (Cr.set ⟨r0,r1,r2,r3,r4,r5,r6,r7,pc+1⟩ dn (s.rs[t].xs.getD s.rs[t].first 0)) (-1) false from by
    unfold bR
    rw [hc0]
    dsimp only
    rw [← HI.out,if_neg (fun hh=>hh HG.out),if_neg (fun hh=>hh HM0.out),if_pos rfl,hr0,if_neg hr]
    rfl)
   generalize s.rs[t].xs.getD s.rs[t].first 0=hv at PT hh HXS
   refine dB (n:=14) (S:=fun w'=>w'.heap[X]?=some (.cells #[.int .i64 22,.int .i64 (dn:Int),.int .i64 si,.int .i64 ti,.int .i64 u,.int .i64 ar,.int .u32 k,.int .i64 to_] 214 (0,0))∧w'.heap[be]?=some (.cells #[.slice (some ⟨cg,0,none⟩) p.l.length capl,.int .i64 p.lo,.int .i64 p.un,.pointer (some ⟨bm,0,none⟩),.pointer (some ⟨bp,0,none⟩),.slice (some ⟨gk,0,none⟩) s.cs.length s.cs.length] 149 (0,0))) (ds:= [13]) #[false,false,false,false,false,false,false,false,false,false,false,false,false,false] (by kernel_rfl) rfl rfl ⟨q9.out,nb.out⟩ (fun hHeld=>?_)
   replace q6:=aA.mk (drew_ q6.out)
   replace q7:=aA.mk (drew_ q7.out)
   replace q9:=aA.mk (drew_ q9.out)
   replace qY:=aA.mk (drew_ qY.out)
   replace nb:=aA.mk (drew_ nb.out)
   replace HE:=aA.mk (HE.out.below (bG (Below.refl _ _)))
   replace HM:=aA.mk (HM.out.drew)
   generalize w11.drew=w2 at q6 q7 q9 qY nb HE HM hHeld ⊢
   refine pur_ 0 101 ?_
   refine pur_ 2 103 ?_
   refine pur_ 3 104 ?_
   refine pur_ 4 105 ?_
   refine pur_ 6 107 ?_
   refine pur_ 11 111 ?_
   refine tak_ 1 102 (.int .i64 (dn:Int)) ?_ hHeld ?_
   ·intro w' hS
    have c1:=(aC hS.1 1).trans rfl
    clear hHeld hS
    go_simp
   refine tak_ 5 106 (.pointer (some ⟨bp,0,none⟩)) ?_ hHeld ?_
   ·intro w' hS
    have c4:=(aC hS.2 4).trans rfl
    clear hHeld hS
    go_simp
   refine on_ 7 108 (fun K hK=>?_)
   refine goe_ Tryz.func124 #[.pointer (some ⟨bp,0,none⟩),.int .i64 (t:Int)] ?_
   refine (PT.out _ HE.out.pool).mono ?_
   rintro e w9 ⟨rfl,hm,hP⟩
   have hS9:∀ q,(q=s.rs[t].b∨q=s.rs[t].g∨q=mb)→q=mb∨∃ r∈s.rs,q=r.b∨q=r.g:=fun q hq=>by
    rcases hq with e|e|e
    ·exact .inr ⟨_,List.getElem_mem ht',.inl e⟩
    ·exact .inr ⟨_,List.getElem_mem ht',.inr e⟩
    ·exact .inl e
   replace q6:=aA.mk (HE.out.nS hm hS9 q6.out (by decide) (by decide))
   replace q7:=aA.mk (HE.out.nS hm hS9 q7.out (by decide) (by decide))
   replace q9:=aA.mk (HE.out.nS hm hS9 q9.out (by decide) (by decide))
   replace qY:=aA.mk (HE.out.nS hm hS9 qY.out (by decide) (by decide))
   replace nb:=aA.mk (HE.out.nS hm hS9 nb.out (by decide) (by decide))
   replace HM:=aA.mk (HM.out.trans hm (fun q _ hq=> .inr (.inr (hS9 q hq))))
   replace HE:=aA.mk (HE.out.pools hm hS9 hP (A9 ht' rfl rfl))
   clear hm hP hS9 hHeld
   refine ⟨_,rfl,?_⟩
   refine hK.out _ _ ⟨q9.out,nb.out⟩ (fun hHeld=>?_)
   clear hK K
   refine nor_ ?_
   refine pur_ 8 100 ?_
   refine pur_ 9 109 ?_
   refine pur_ 10 110 ?_
   refine pur_ 12 112 ?_
   refine fX (i:=13) (N:=none) #[true,true,true,true,true,true,true,true,true,true,true,true,true,true] rfl rfl (by kernel_rfl) (by decide) (fun K hK=>?_)
   refine iH (w1:=w9.setCell ⟨w.heap.size+1,dn,none⟩ (.int .u32 hv)) (by rfl) rfl ?_ ?_
   ·clear hK hHeld
    have cj:=(aC q7.out dn).trans (kE ⟨r0,r1,r2,r3,r4,r5,r6,r7,pc+1⟩ dn d8)
    have fj:=aG q7.out dn
    go_simp
   replace q6:=aA.mk (bB (p:=⟨w.heap.size+1,dn,none⟩) q6.out (by simp) (.int .u32 hv))
   replace q9:=aA.mk (bB (p:=⟨w.heap.size+1,dn,none⟩) q9.out (by intro e;dsimp only at e;omega) (.int .u32 hv))
   replace qY:=aA.mk (bB (p:=⟨w.heap.size+1,dn,none⟩) qY.out (by intro e;dsimp only at e;omega) (.int .u32 hv))
   replace nb:=aA.mk (nb)
   replace HE:=aA.mk (HE.out.U2 (j:=dn) q7.out ngk (.int .u32 hv))
   replace q7:=aA.mk ((bE q7.out dn (.int .u32 hv)).trans (congrArg (fun z=>some (Obj.cells z 192 (0,0))) (OO ⟨r0,r1,r2,r3,r4,r5,r6,r7,pc+1⟩ dn d8 hv)))
   replace HM:=aA.mk (HM.out.trans (show Mod (fun q=>q=w.heap.size+1) w9 (w9.setCell ⟨w.heap.size+1,dn,none⟩ (.int .u32 hv)) from (Mod.refl (fun q=>q=w.heap.size+1) w9).setCell (p:=⟨w.heap.size+1,dn,none⟩) rfl _) (fun q hq hs=>by exfalso;omega))
   clear hHeld
   generalize w9.setCell ⟨w.heap.size+1,dn,none⟩ (.int .u32 hv)=w3 at q6 q7 q9 qY nb HE HM ⊢
   refine hK.out _ _ ?_
   clear hK K
   refine eO (by kernel_rfl) ?_
   have HMw:=HM
   obtain ⟨c2,hc2⟩:∃ c2,c2=Cr.set ⟨r0,r1,r2,r3,r4,r5,r6,r7,pc+1⟩ dn hv:=⟨_,rfl⟩
   have cok:c2.ok:=by rw [hc2];exact Cr.lC cok1 _ _ hh.1 hh.2
   rw [← hc2] at q7 HXS
   clear hc2 hc0 hr0
   obtain ⟨a0,a1,a2,a3,a4,a5,a6,a7,ap⟩:=c2
   dsimp only at q7
   have E:=aA.mk (fun W (hE:jQ W ⟨be,bm,bc,gc,bp,gr,cap,mb,gk,B,some ⟨cg,0,none⟩,capl,vs,vb,rest⟩ p ⟨s.xs,s.rs.set t (lB p.m s.rs[t]),jT s.f hv ((t:Int)+1),s.took+1,s.cs⟩)=>iA be gk capl bm bp (some ⟨cg,0,none⟩) p.l p.lo p.un s.cs t ⟨a0,a1,a2,a3,a4,a5,a6,a7,ap⟩ 0 (-1) 0 false false _ W hE.bI (Kd.dC hE.code).2.2 (Kd.dC hE.code).2.1 HO.out.good.l64 (fun i hi=>(HO.out.ins i hi).ok) hE.cores ht (by have:=HO.out.nc;have:=HO.out.good.n64;omega) cok rfl)
   obtain ⟨x0,x1,x2,x3,x4,x5,x6,x7,x8⟩:=oH q7.out
   obtain ⟨u0,u1,u2,u3,u4,u5⟩:=eM qY.out
   have ng:w.heap.size≠gk:=by have:=aZ H.out.cores;dsimp only at this;omega
   unfold dH at HXS
   revert E HXS
   generalize (go p.l t 256 ⟨a0,a1,a2,a3,a4,a5,a6,a7,ap⟩ [])=rr
   intro HXS E
   obtain ⟨c',ms,dd,er⟩:=rr
   go_wp2_with (go_at_call 128;refine (E.out _ HE.out).mono ?_;rintro e w4 ⟨v,rfl,hR,hm4,hg4⟩;have HV0:=aA.mk (Kd.cT hR HMw.out.size);have HM4:=aA.mk hm4;have HE4:=aA.mk (HE.out.core hm4 hg4 (by simp));have n8:=aA.mk (hm4.bI q6.out ng);clear hR hm4 hg4;obtain ⟨Av,cv,hv,_,_⟩:=Kd.bY HV0.out;subst hv;obtain ⟨y0,z0,y1,z1,y2,z2,y3,z3,y4,z4,y5,z5⟩:=fW n8.out)
   change bodyPost _ _ _ _ _ (iU w4 w.heap.size (.slice Av ms.length cv) (.int .i64 dd) (.int .i64 (-1)) (.bool false) (.bool false) (.int .i64 er))
   have M8:=fR w4 w.heap.size (.slice Av ms.length cv) (.int .i64 dd) (.int .i64 (-1)) (.bool false) (.bool false) (.int .i64 er)
   have p8:=eY n8.out (.slice Av ms.length cv) (.int .i64 dd) (.int .i64 (-1)) (.bool false) (.bool false) (.int .i64 er)
   have HVF:=iT HV0.out M8 (fun q hq=>by rcases hq with rfl;exact ⟨_,_,n8.out,by decide⟩)
   have HEF:=HE4.out.nE n8.out M8
   have MF:=((HMw.out.trans HM4.out (fun q _ hs=> .inr (.inl hs))).trans M8 (fun q hq hs=>by exfalso;omega))
   generalize iU w4 w.heap.size (.slice Av ms.length cv) (.int .i64 dd) (.int .i64 (-1)) (.bool false) (.bool false) (.int .i64 er)=WF at p8 HVF HEF MF ⊢
   obtain ⟨v0,v1,v2,v3,v4,v5⟩:=eM p8
   exact bodyPost_ret (v:= .agg #[.slice Av ms.length cv,.int .i64 dd,.int .i64 (-1),.bool false,.bool false,.int .i64 er]) (by simp [results,Tryz.results65,go_sem, *]) rfl (by rw [HXS.out];exact ⟨_,rfl,HVF,MF,HEF⟩)
theorem EV (b:XB) (p:dU) (s:XS) (t:Nat) (late:Bool) (w:World) (h:jQ w b p s) (ho:sP p s) (ht:t<s.cs.length) (hg:0≤s.cs[t].pc∧s.cs[t].pc<p.l.length) (hm:16≤(bJ p.l s.cs[t].pc).op∧(bJ p.l s.cs[t].pc).op≤23) (hk:s.took<maxLen) (hop:(bJ p.l s.cs[t].pc).op=23):
  Calls Tryz.prog 65 #[.pointer (some ⟨b.be,0,none⟩),.int .i64 (t:Int),.bool late] w fun e w'=>
   ∃ v,e= .returned (.agg #[v,.int .i64 (bR p s t late).1.dn,.int .i64 (bR p s t late).1.addr,.bool (bR p s t late).1.wr,.bool (bR p s t late).1.st,.int .i64 (bR p s t late).1.er])∧Kd.R (Kd.int .i64) 3 w' w.heap.size (fun _=>True) v (bR p s t late).1.marks∧Mod (oJ b s) w w'∧jQ w' b p (bR p s t late).2:=by
 have H:=aA.mk h
 have HO:=aA.mk ho
 have HT:=aA.mk ht
 have HG:=aA.mk hg
 have HM:=aA.mk hm
 have HOP:=aA.mk hop
 obtain ⟨⟨k0,k1,k2,k3,k4,k5,k6,k7,k8⟩,j0,j1,j2,j3,j4,j5,j6,j7,j8⟩:=kH h.cores ht
 have b5:=(aC h.bI 5).trans rfl
 have zb:=aZ h.bI
 have zk:=aZ h.cores
 have i0:(0:Int)≤(t:Int):=by omega
 have i1:(t:Int)<(s.cs.length:Int):=by omega
 have i2:(s.cs.length:Int)≤64:=by have:=ho.nc;have:=ho.good.n64;omega
 obtain ⟨c,hc⟩:∃ c,c=s.cs[t]:=⟨_,rfl⟩
 have HC:=aA.mk hc
 rw [← hc] at HG HM HOP k0 k1 k2 k3 k4 k5 k6 k7 k8
 obtain ⟨cg,cur,hA,CG,x0,x1,x2,x3,x4,x5,x6,x7⟩:=qH h.code c.pc HG.out.1 HG.out.2
 obtain ⟨i,hi⟩:∃ i,i=bJ p.l c.pc:=⟨_,rfl⟩
 have HI:=aA.mk hi
 have HX:=aA.mk (⟨x0,x1,x2,x3,x4,x5,x6,x7⟩:_∧_∧_∧_∧_∧_∧_∧_)
 have NG:=aA.mk CG
 rw [← hi] at HM HX HOP
 obtain ⟨op,d,si,ti,u,ar,k,to_⟩:=i
 obtain ⟨be,bm,bc,gc,bp,gr,cap,mb,gk,B,A,capl,vs,vb,rest⟩:=b
 dsimp only at k0 k1 k2 k3 k4 k5 k6 k7 k8 HM HOP HX hA zb zk b5 CG
 subst hA
 have HB:=aA.mk h.bI
 dsimp only at HB
 clear h ho hg hm hop hc hi x0 x1 x2 x3 x4 x5 x6 x7 CG
 obtain ⟨r0,r1,r2,r3,r4,r5,r6,r7,pc⟩:=c
 dsimp only at k0 k1 k2 k3 k4 k5 k6 k7 k8 HG HM HX HI
 go_enter Tryz.func65,Tryz.ntmps65
 go_wp2_with fail
 have hbl:=mM w (.cells #[.slice none 0 0,.int .i64 0,.int .i64 0,.bool false,.bool false,.int .i64 0] 136) (.cells #[.int .u32 r0,.int .u32 r1,.int .u32 r2,.int .u32 r3,.int .u32 r4,.int .u32 r5,.int .u32 r6,.int .u32 r7,.int .i64 pc] 192) (.cells #[.slice none 0 0,.int .i64 (-1),.int .i64 (-1),.bool false,.bool false,.int .i64 11] 136)
 have n6:=aA.mk hbl.1
 have n7:=aA.mk hbl.2.1
 have n8:=aA.mk hbl.2.2
 have HW:=aA.mk (show Below w.heap.size w (((w.alloc _).alloc _).alloc _) from aD (aD (aD (Below.refl w.heap.size w) (.cells #[.slice none 0 0,.int .i64 0,.int .i64 0,.bool false,.bool false,.int .i64 0] 136)) (.cells #[.int .u32 r0,.int .u32 r1,.int .u32 r2,.int .u32 r3,.int .u32 r4,.int .u32 r5,.int .u32 r6,.int .u32 r7,.int .i64 pc] 192)) (.cells #[.slice none 0 0,.int .i64 (-1),.int .i64 (-1),.bool false,.bool false,.int .i64 11] 136))
 clear hbl
 generalize (((w.alloc (.cells #[.slice none 0 0,.int .i64 0,.int .i64 0,.bool false,.bool false,.int .i64 0] 136)).alloc (.cells #[.int .u32 r0,.int .u32 r1,.int .u32 r2,.int .u32 r3,.int .u32 r4,.int .u32 r5,.int .u32 r6,.int .u32 r7,.int .i64 pc] 192)).alloc (.cells #[.slice none 0 0,.int .i64 (-1),.int .i64 (-1),.bool false,.bool false,.int .i64 11] 136))=w1 at n6 n7 n8 HW ⊢
 have nb:=aA.mk (aE HB.out HW.out)
 have ng:=aA.mk (aE NG.out HW.out)
 clear k0 k1 k2 k3 k4 k5 k6 k7 k8 j0 j1 j2 j3 j4 j5 j6 j7 j8 b5 zb zk
 have e0:decide (pc<0)=false:=decide_eq_false (by have:=HG.out;omega)
 have e1:decide ((p.l.length:Int)≤pc)=false:=decide_eq_false (by have:=HG.out;omega)
 have g0:=HG.out.1
 have g1:=HG.out.2
 have l64:(p.l.length:Int)≤64:=by have:=HO.out.good.l64;omega
 have PM:=aA.mk (fun W=>(mP ⟨op,d,si,ti,u,ar,k,to_⟩ W).mono (R':=fun e w'=>e= .returned (.bool true)∧Below W.heap.size W w') (fun e w' hh=>⟨by rw [hh.1,decide_eq_true HM.out],hh.2⟩))

 refine dB (n:=27) (S:=fun w'=>w'.heap[w.heap.size+1]?=some (.cells #[.int .u32 r0,.int .u32 r1,.int .u32 r2,.int .u32 r3,.int .u32 r4,.int .u32 r5,.int .u32 r6,.int .u32 r7,.int .i64 pc] 192 (0,0))∧w'.heap[be]?=some (.cells #[.slice (some ⟨cg,0,none⟩) p.l.length capl,.int .i64 p.lo,.int .i64 p.un,.pointer (some ⟨bm,0,none⟩),.pointer (some ⟨bp,0,none⟩),.slice (some ⟨gk,0,none⟩) s.cs.length s.cs.length] 149 (0,0))∧w'.heap[cg]?=some (.cells cur 214 (0,0))) (ds:= []) #[false,false,false,false,false,false,false,false,false,false,false,false,false,false,false,false,false,false,false,false,false,false,false,false,false,false,false] (by kernel_rfl) rfl rfl ⟨n7.out,nb.out,ng.out⟩ (fun hHeld=>?_)
 replace n6:=aA.mk (drew_ n6.out)
 replace n7:=aA.mk (drew_ n7.out)
 replace n8:=aA.mk (drew_ n8.out)
 replace nb:=aA.mk (drew_ nb.out)
 replace ng:=aA.mk (drew_ ng.out)
 replace HW:=aA.mk (bG HW.out)
 generalize w1.drew=w2 at n6 n7 n8 nb ng HW hHeld ⊢
 refine pur_ 0 22 ?_
 refine tak_ 1 23 (.int .i64 pc) ?_ hHeld ?_
 ·intro w' hS
  have c8:=(aC hS.1 8).trans rfl
  clear hHeld hS
  go_simp
 refine pur_ 2 24 ?_
 refine pur_ 3 25 ?_
 refine pur_ 4 26 ?_
 refine pur_ 6 28 ?_
 refine pur_ 7 29 ?_
 refine pur_ 8 30 ?_
 refine pur_ 9 31 ?_
 refine tak_ 5 27 (.int .i64 pc) ?_ hHeld ?_
 ·intro w' hS
  have c8:=(aC hS.1 8).trans rfl
  clear hHeld hS
  go_simp
 refine tak_ 10 32 (.slice (some ⟨cg,0,none⟩) p.l.length capl) ?_ hHeld ?_
 ·intro w' hS
  have c0:=(aC hS.2.1 0).trans rfl
  clear hHeld hS
  go_simp
 refine pur_ 11 33 ?_
 refine pur_ 12 34 ?_
 refine pur_ 13 35 ?_
 refine pur_ 14 36 ?_
 refine pur_ 15 37 ?_
 refine pur_ 16 38 ?_
 refine pur_ 17 39 ?_
 refine pur_ 18 40 ?_
 refine pur_ 20 42 ?_
 refine tak_ 19 41 (.slice (some ⟨cg,0,none⟩) p.l.length capl) ?_ hHeld ?_
 ·intro w' hS
  have c0:=(aC hS.2.1 0).trans rfl
  clear hHeld hS
  go_simp
 refine tak_ 21 43 (.int .i64 pc) ?_ hHeld ?_
 ·intro w' hS
  have c8:=(aC hS.1 8).trans rfl
  clear hHeld hS
  go_simp
 refine pur_ 22 44 ?_
 refine tak_ 23 45 (.agg #[.int .i64 op,.int .i64 d,.int .i64 si,.int .i64 ti,.int .i64 u,.int .i64 ar,.int .u32 k,.int .i64 to_]) ?_ hHeld ?_
 ·intro w' hS
  have y0:=(aC hS.2.2 (pc.toNat*8)).trans HX.out.1
  have y1:=(aC hS.2.2 (pc.toNat*8+1)).trans HX.out.2.1
  have y2:=(aC hS.2.2 (pc.toNat*8+2)).trans HX.out.2.2.1
  have y3:=(aC hS.2.2 (pc.toNat*8+3)).trans HX.out.2.2.2.1
  have y4:=(aC hS.2.2 (pc.toNat*8+4)).trans HX.out.2.2.2.2.1
  have y5:=(aC hS.2.2 (pc.toNat*8+5)).trans HX.out.2.2.2.2.2.1
  have y6:=(aC hS.2.2 (pc.toNat*8+6)).trans HX.out.2.2.2.2.2.2.1
  have y7:=(aC hS.2.2 (pc.toNat*8+7)).trans HX.out.2.2.2.2.2.2.2
  clear hHeld hS
  go_simp
 refine on_ 24 46 (fun K hK=>?_)
 refine goe_ Tryz.func123 #[.agg #[.int .i64 op,.int .i64 d,.int .i64 si,.int .i64 ti,.int .i64 u,.int .i64 ar,.int .u32 k,.int .i64 to_]] ?_
 refine (PM.out _).mono ?_
 rintro e w9 ⟨rfl,hb⟩
 refine ⟨_,rfl,?_⟩
 replace n6:=aA.mk (aE n6.out hb)
 replace n7:=aA.mk (aE n7.out hb)
 replace n8:=aA.mk (aE n8.out hb)
 replace nb:=aA.mk (aE nb.out hb)
 replace ng:=aA.mk (aE ng.out hb)
 replace HW:=aA.mk (bA HW.out hb)
 clear hb hHeld
 refine hK.out _ _ ⟨n7.out,nb.out,ng.out⟩ (fun hHeld=>?_)
 clear hK K
 refine nor_ ?_
 refine pur_ 25 47 ?_
 refine pur_ 26 48 ?_
 refine eO (by kernel_rfl) ?_
 go_wp2_with fail
 clear PM e0 e1
 have c8:w9.cell? ⟨w.heap.size+1,8,none⟩=some (.int .i64 pc):=(aC n7.out 8).trans rfl
 have c0:w9.cell? ⟨be,0,none⟩=some (.slice (some ⟨cg,0,none⟩) p.l.length capl):=(aC nb.out 0).trans rfl

 have y0:=(aC ng.out (pc.toNat*8)).trans HX.out.1
 have y1:=(aC ng.out (pc.toNat*8+1)).trans HX.out.2.1
 have y2:=(aC ng.out (pc.toNat*8+2)).trans HX.out.2.2.1
 have y3:=(aC ng.out (pc.toNat*8+3)).trans HX.out.2.2.2.1
 have y4:=(aC ng.out (pc.toNat*8+4)).trans HX.out.2.2.2.2.1
 have y5:=(aC ng.out (pc.toNat*8+5)).trans HX.out.2.2.2.2.2.1
 have y6:=(aC ng.out (pc.toNat*8+6)).trans HX.out.2.2.2.2.2.2.1
 have y7:=(aC ng.out (pc.toNat*8+7)).trans HX.out.2.2.2.2.2.2.2
 have z1:=aZ n7.out
 have z2:=aZ nb.out
 have z3:=aZ ng.out
 go_region
 obtain ⟨X,hX⟩:∃ X,X=w9.heap.size:=⟨_,rfl⟩
 have n9:=aA.mk (show (w9.alloc (.cells #[.int .i64 op,.int .i64 d,.int .i64 si,.int .i64 ti,.int .i64 u,.int .i64 ar,.int .u32 k,.int .i64 to_] 214)).drew.heap[X]?=some (.cells #[.int .i64 op,.int .i64 d,.int .i64 si,.int .i64 ti,.int .i64 u,.int .i64 ar,.int .u32 k,.int .i64 to_] 214 (0,0)) from by rw [hX];exact bF w9 _)
 have m6:=aA.mk (show (w9.alloc (.cells #[.int .i64 op,.int .i64 d,.int .i64 si,.int .i64 ti,.int .i64 u,.int .i64 ar,.int .u32 k,.int .i64 to_] 214)).drew.heap[w.heap.size]?=some _ from aV n6.out _)
 have m7:=aA.mk (show (w9.alloc (.cells #[.int .i64 op,.int .i64 d,.int .i64 si,.int .i64 ti,.int .i64 u,.int .i64 ar,.int .u32 k,.int .i64 to_] 214)).drew.heap[w.heap.size+1]?=some _ from aV n7.out _)
 have m8:=aA.mk (show (w9.alloc (.cells #[.int .i64 op,.int .i64 d,.int .i64 si,.int .i64 ti,.int .i64 u,.int .i64 ar,.int .u32 k,.int .i64 to_] 214)).drew.heap[w.heap.size+1+1]?=some _ from aV n8.out _)
 have m9:=aA.mk (show Below w.heap.size w (w9.alloc (.cells #[.int .i64 op,.int .i64 d,.int .i64 si,.int .i64 ti,.int .i64 u,.int .i64 ar,.int .u32 k,.int .i64 to_] 214)).drew from bG (aD HW.out _))
 have z4:w.heap.size+1+1<X:=by rw [hX];exact aZ n8.out
 rw [← hX]
 clear n6 n7 n8 nb ng HW c8 c0 y0 y1 y2 y3 y4 y5 y6 y7 z1 z2 z3 hX
 generalize (w9.alloc (.cells #[.int .i64 op,.int .i64 d,.int .i64 si,.int .i64 ti,.int .i64 u,.int .i64 ar,.int .u32 k,.int .i64 to_] 214)).drew=w10 at n9 m6 m7 m8 m9 ⊢
 have c8:=(aC m7.out 8).trans rfl
 have f8:=aG m7.out 8
 have hs:wrap64 (pc+1)=pc+1:=by unfold wrap64;omega

 obtain rfl:=HOP.out
 clear HOP
 ·have c9:=(aC n9.out 0).trans rfl
  have zX:=aZ n9.out
  have nX:X≠w.heap.size+1:=by omega
  go_wp2_with fail
  clear c9 zX nX
  obtain ⟨Y,hY⟩:∃ Y,Y=w10.heap.size:=⟨_,rfl⟩
  have q6:=aA.mk (show ((w10.setCell ⟨w.heap.size+1,8,none⟩ (.int .i64 (pc+1))).alloc (.cells #[.slice none 0 0,.int .i64 0,.int .i64 (-1),.bool false,.bool false,.int .i64 0] 136)).heap[w.heap.size]?=some (.cells #[.slice none 0 0,.int .i64 0,.int .i64 0,.bool false,.bool false,.int .i64 0] 136 (0,0)) from aV (bB (p:=⟨w.heap.size+1,8,none⟩) m6.out (by simp) _) _)
  have q7:=aA.mk (show ((w10.setCell ⟨w.heap.size+1,8,none⟩ (.int .i64 (pc+1))).alloc (.cells #[.slice none 0 0,.int .i64 0,.int .i64 (-1),.bool false,.bool false,.int .i64 0] 136)).heap[w.heap.size+1]?=some (.cells #[.int .u32 r0,.int .u32 r1,.int .u32 r2,.int .u32 r3,.int .u32 r4,.int .u32 r5,.int .u32 r6,.int .u32 r7,.int .i64 (pc+1)] 192 (0,0)) from aV ((bE m7.out 8 _).trans rfl) _)
  have q8:=aA.mk (show ((w10.setCell ⟨w.heap.size+1,8,none⟩ (.int .i64 (pc+1))).alloc (.cells #[.slice none 0 0,.int .i64 0,.int .i64 (-1),.bool false,.bool false,.int .i64 0] 136)).heap[w.heap.size+1+1]?=some (.cells #[.slice none 0 0,.int .i64 (-1),.int .i64 (-1),.bool false,.bool false,.int .i64 11] 136 (0,0)) from aV (bB (p:=⟨w.heap.size+1,8,none⟩) m8.out (by simp) _) _)
  have q9:=aA.mk (show ((w10.setCell ⟨w.heap.size+1,8,none⟩ (.int .i64 (pc+1))).alloc (.cells #[.slice none 0 0,.int .i64 0,.int .i64 (-1),.bool false,.bool false,.int .i64 0] 136)).heap[X]?=some (.cells #[.int .i64 23,.int .i64 d,.int .i64 si,.int .i64 ti,.int .i64 u,.int .i64 ar,.int .u32 k,.int .i64 to_] 214 (0,0)) from aV (bB (p:=⟨w.heap.size+1,8,none⟩) n9.out (by intro e;dsimp only at e;omega) _) _)
  have qY:=aA.mk (show ((w10.setCell ⟨w.heap.size+1,8,none⟩ (.int .i64 (pc+1))).alloc (.cells #[.slice none 0 0,.int .i64 0,.int .i64 (-1),.bool false,.bool false,.int .i64 0] 136)).heap[Y]?=some (.cells #[.slice none 0 0,.int .i64 0,.int .i64 (-1),.bool false,.bool false,.int .i64 0] 136 (0,0)) from by have:=bF (w10.setCell ⟨w.heap.size+1,8,none⟩ (.int .i64 (pc+1))) (.cells #[.slice none 0 0,.int .i64 0,.int .i64 (-1),.bool false,.bool false,.int .i64 0] 136);rw [hY];simpa using this)
  have HW:=aA.mk (show Below w.heap.size w ((w10.setCell ⟨w.heap.size+1,8,none⟩ (.int .i64 (pc+1))).alloc (.cells #[.slice none 0 0,.int .i64 0,.int .i64 (-1),.bool false,.bool false,.int .i64 0] 136)) from aD (bM (j:=8) m9.out (by omega)) _)
  have zY:X<Y:=by rw [hY];exact aZ n9.out
  try simp only [World.size_setCell] at*
  rw [← hY]
  clear n9 m6 m7 m8 m9 c8 f8 hs hY
  generalize ((w10.setCell ⟨w.heap.size+1,8,none⟩ (.int .i64 (pc+1))).alloc (.cells #[.slice none 0 0,.int .i64 0,.int .i64 (-1),.bool false,.bool false,.int .i64 0] 136))=w11 at q6 q7 q8 q9 qY HW ⊢
  have HE:=aA.mk (H.out.below HW.out)
  obtain ⟨sn,rfl⟩:=Int.eq_ofNat_of_zero_le (show 0≤si from by have:=(HO.out.ins _ (iZ HG.out.1 HG.out.2)).ok.s;rw [← HI.out] at this;exact this.1)
  have d8:sn<8:=by have:=(HO.out.ins _ (iZ HG.out.1 HG.out.2)).ok.s;rw [← HI.out] at this;have:=this.2;dsimp only at this;omega
  have dI:(sn:Int)<8:=by omega
  have dJ:(0:Int)≤(sn:Int):=by omega
  have hc0:s.cs.getD t Cr.zero=⟨r0,r1,r2,r3,r4,r5,r6,r7,pc⟩:=by rw [List.getD_eq_getElem?_getD,List.getElem?_eq_getElem HT.out,Option.getD_some];exact HC.out.symm
  have cok:Cr.ok ⟨r0,r1,r2,r3,r4,r5,r6,r7,pc+1⟩:=by have:=HO.out.cs _ (List.getElem_mem HT.out);rw [← HC.out] at this;exact this
  have nb:=aA.mk HE.out.bI
  dsimp only at nb
  have HM0:=HM
  clear HM
  have HM:=aA.mk ((Mod.jE HW.out).mono (T:=oJ ⟨be,bm,bc,gc,bp,gr,cap,mb,gk,B,some ⟨cg,0,none⟩,capl,vs,vb,rest⟩ s) (fun _ _ hf=>hf.elim))
  clear HW
  have hx0:bR p s t late=(if Cr.get ⟨r0,r1,r2,r3,r4,r5,r6,r7,pc+1⟩ sn=0 then dH p s t ⟨r0,r1,r2,r3,r4,r5,r6,r7,pc+1⟩ (-1) false else if s.f (Cr.get ⟨r0,r1,r2,r3,r4,r5,r6,r7,pc+1⟩ sn)=0 then (vG,s) else dH p ⟨s.xs,s.rs.set (s.f (Cr.get ⟨r0,r1,r2,r3,r4,r5,r6,r7,pc+1⟩ sn) - 1).toNat (oB p.m (s.rs.getD (s.f (Cr.get ⟨r0,r1,r2,r3,r4,r5,r6,r7,pc+1⟩ sn) - 1).toNat nP) (eR (Cr.get ⟨r0,r1,r2,r3,r4,r5,r6,r7,pc+1⟩ sn).toNat)),jT s.f (Cr.get ⟨r0,r1,r2,r3,r4,r5,r6,r7,pc+1⟩ sn) 0,s.took,s.cs⟩ t ⟨r0,r1,r2,r3,r4,r5,r6,r7,pc+1⟩ (-1) false):=by
   unfold bR
   rw [hc0]
   dsimp only
   rw [← HI.out,if_neg (fun hh=>hh HG.out),if_neg (fun hh=>hh HM0.out),if_neg (fun e=>by cases e),if_pos rfl]
   rfl
  have hat:=kE ⟨r0,r1,r2,r3,r4,r5,r6,r7,pc+1⟩ sn d8
  have hgo:=Cr.mO cok sn
  obtain ⟨h,hh⟩:=Int.eq_ofNat_of_zero_le hgo.1
  rw [hh] at hat hgo hx0
  clear hh hc0
  by_cases hz:h=0
  ·subst hz
   have HXS:=aA.mk (hx0.trans (if_pos rfl))
   clear hx0
   have PT:=aA.mk (fun W (hW:iG W bp gr cap mb p.m s.took rest s.rs s.f)=>(zG bp W).mono (R':=fun e w'=>e= .returned (.int .i64 0)∧Below W.heap.size W w') (fun e w' hh=>⟨hh.1,by rw [hh.2];exact Below.refl _ _⟩))
   refine dB (n:=11) (S:=fun w'=>w'.heap[X]?=some (.cells #[.int .i64 23,.int .i64 d,.int .i64 (sn:Int),.int .i64 ti,.int .i64 u,.int .i64 ar,.int .u32 k,.int .i64 to_] 214 (0,0))∧w'.heap[be]?=some (.cells #[.slice (some ⟨cg,0,none⟩) p.l.length capl,.int .i64 p.lo,.int .i64 p.un,.pointer (some ⟨bm,0,none⟩),.pointer (some ⟨bp,0,none⟩),.slice (some ⟨gk,0,none⟩) s.cs.length s.cs.length] 149 (0,0))∧w'.heap[w.heap.size+1]?=some (.cells #[.int .u32 r0,.int .u32 r1,.int .u32 r2,.int .u32 r3,.int .u32 r4,.int .u32 r5,.int .u32 r6,.int .u32 r7,.int .i64 (pc+1)] 192 (0,0))) (ds:= []) #[false,false,false,false,false,false,false,false,false,false,false] (by kernel_rfl) rfl rfl ⟨q9.out,nb.out,q7.out⟩ (fun hHeld=>?_)
   replace q6:=aA.mk (drew_ q6.out)
   replace q7:=aA.mk (drew_ q7.out)
   replace q8:=aA.mk (drew_ q8.out)
   replace q9:=aA.mk (drew_ q9.out)
   replace qY:=aA.mk (drew_ qY.out)
   replace nb:=aA.mk (drew_ nb.out)
   replace HE:=aA.mk (HE.out.below (bG (Below.refl _ _)))
   replace HM:=aA.mk (HM.out.drew)
   generalize w11.drew=w2 at q6 q7 q8 q9 qY nb HE HM hHeld ⊢
   refine pur_ 0 115 ?_
   refine pur_ 1 116 ?_
   refine pur_ 2 117 ?_
   refine pur_ 4 119 ?_
   refine pur_ 6 121 ?_
   refine tak_ 3 118 (.pointer (some ⟨bp,0,none⟩)) ?_ hHeld ?_
   ·intro w' hS
    have c4:=(aC hS.2.1 4).trans rfl
    clear hHeld hS
    go_simp
   refine tak_ 5 120 (.int .i64 (sn:Int)) ?_ hHeld ?_
   ·intro w' hS
    have c2:=(aC hS.1 2).trans rfl
    clear hHeld hS
    go_simp
   refine pur_ 7 122 ?_
   refine tak_ 8 123 (.int .u32 0) ?_ hHeld ?_
   ·intro w' hS
    have c7:=(aC hS.2.2 sn).trans hat
    clear hHeld hS
    go_simp
   refine on_ 9 124 (fun K hK=>?_)
   refine goe_ Tryz.func125 #[.pointer (some ⟨bp,0,none⟩),.int .u32 0] ?_
   refine (PT.out _ HE.out.pool).mono ?_
   rintro e w9 ⟨rfl,hb⟩
   refine ⟨_,rfl,?_⟩
   replace q6:=aA.mk (aE q6.out hb)
   replace q7:=aA.mk (aE q7.out hb)
   replace q8:=aA.mk (aE q8.out hb)
   replace q9:=aA.mk (aE q9.out hb)
   replace qY:=aA.mk (aE qY.out hb)
   replace nb:=aA.mk (aE nb.out hb)
   replace HE:=aA.mk (HE.out.below hb)
   replace HM:=aA.mk (HM.out.step hb)
   clear hb hHeld
   refine hK.out _ _ ⟨q9.out,nb.out,q7.out⟩ (fun hHeld=>?_)
   clear hK K
   refine nor_ ?_
   refine pur_ 10 11 ?_
   refine eO (by kernel_rfl) ?_
   have HMw:=HM
   have E:=aA.mk (fun W (hE:jQ W ⟨be,bm,bc,gc,bp,gr,cap,mb,gk,B,some ⟨cg,0,none⟩,capl,vs,vb,rest⟩ p s)=>iA be gk capl bm bp (some ⟨cg,0,none⟩) p.l p.lo p.un s.cs t ⟨r0,r1,r2,r3,r4,r5,r6,r7,pc+1⟩ 0 (-1) 0 false false _ W hE.bI (Kd.dC hE.code).2.2 (Kd.dC hE.code).2.1 HO.out.good.l64 (fun i hi=>(HO.out.ins i hi).ok) hE.cores ht (by have:=HO.out.nc;have:=HO.out.good.n64;omega) cok rfl)
   obtain ⟨x0,x1,x2,x3,x4,x5,x6,x7,x8⟩:=oH q7.out
   obtain ⟨u0,u1,u2,u3,u4,u5⟩:=eM qY.out
   have ng:w.heap.size≠gk:=by have:=aZ H.out.cores;dsimp only at this;omega
   unfold dH at HXS
   revert E HXS
   generalize (go p.l t 256 ⟨r0,r1,r2,r3,r4,r5,r6,r7,pc+1⟩ [])=rr
   intro HXS E
   obtain ⟨c',ms,dd,er⟩:=rr
   go_wp2_with (go_at_call 128;refine (E.out _ HE.out).mono ?_;rintro e w4 ⟨v,rfl,hR,hm4,hg4⟩;have HV0:=aA.mk (Kd.cT hR HMw.out.size);have HM4:=aA.mk hm4;have HE4:=aA.mk (HE.out.core hm4 hg4 (by simp));have n8:=aA.mk (hm4.bI q6.out ng);clear hR hm4 hg4;obtain ⟨Av,cv,hv,_,_⟩:=Kd.bY HV0.out;subst hv;obtain ⟨y0,z0,y1,z1,y2,z2,y3,z3,y4,z4,y5,z5⟩:=fW n8.out)
   change bodyPost _ _ _ _ _ (iU w4 w.heap.size (.slice Av ms.length cv) (.int .i64 dd) (.int .i64 (-1)) (.bool false) (.bool false) (.int .i64 er))
   have M8:=fR w4 w.heap.size (.slice Av ms.length cv) (.int .i64 dd) (.int .i64 (-1)) (.bool false) (.bool false) (.int .i64 er)
   have p8:=eY n8.out (.slice Av ms.length cv) (.int .i64 dd) (.int .i64 (-1)) (.bool false) (.bool false) (.int .i64 er)
   have HVF:=iT HV0.out M8 (fun q hq=>by rcases hq with rfl;exact ⟨_,_,n8.out,by decide⟩)
   have HEF:=HE4.out.nE n8.out M8
   have MF:=((HMw.out.trans HM4.out (fun q _ hs=> .inr (.inl hs))).trans M8 (fun q hq hs=>by exfalso;omega))
   generalize iU w4 w.heap.size (.slice Av ms.length cv) (.int .i64 dd) (.int .i64 (-1)) (.bool false) (.bool false) (.int .i64 er)=WF at p8 HVF HEF MF ⊢
   obtain ⟨v0,v1,v2,v3,v4,v5⟩:=eM p8
   exact bodyPost_ret (v:= .agg #[.slice Av ms.length cv,.int .i64 dd,.int .i64 (-1),.bool false,.bool false,.int .i64 er]) (by simp [results,Tryz.results65,go_sem, *]) rfl (by rw [HXS.out];exact ⟨_,rfl,HVF,MF,HEF⟩)
  ·have hz':¬ (h:Int)=0:=by omega
   by_cases hf:s.f (h:Int)=0
   ·have HXS:=aA.mk ((hx0.trans (if_neg hz')).trans (if_pos hf))
    clear hx0
    have PT:=aA.mk (fun W (hW:iG W bp gr cap mb p.m s.took rest s.rs s.f)=>(yZ bp gr cap mb p.m s.took rest s.rs s.f h W hW (by omega) (by omega) hf).mono (R':=fun e w'=>e= .returned (.int .i64 10)∧Below W.heap.size W w') (fun e w' hh=>⟨hh.1,by rw [hh.2];exact Below.refl _ _⟩))
    refine dB (n:=11) (S:=fun w'=>w'.heap[X]?=some (.cells #[.int .i64 23,.int .i64 d,.int .i64 (sn:Int),.int .i64 ti,.int .i64 u,.int .i64 ar,.int .u32 k,.int .i64 to_] 214 (0,0))∧w'.heap[be]?=some (.cells #[.slice (some ⟨cg,0,none⟩) p.l.length capl,.int .i64 p.lo,.int .i64 p.un,.pointer (some ⟨bm,0,none⟩),.pointer (some ⟨bp,0,none⟩),.slice (some ⟨gk,0,none⟩) s.cs.length s.cs.length] 149 (0,0))∧w'.heap[w.heap.size+1]?=some (.cells #[.int .u32 r0,.int .u32 r1,.int .u32 r2,.int .u32 r3,.int .u32 r4,.int .u32 r5,.int .u32 r6,.int .u32 r7,.int .i64 (pc+1)] 192 (0,0))) (ds:= []) #[false,false,false,false,false,false,false,false,false,false,false] (by kernel_rfl) rfl rfl ⟨q9.out,nb.out,q7.out⟩ (fun hHeld=>?_)
    replace q6:=aA.mk (drew_ q6.out)
    replace q7:=aA.mk (drew_ q7.out)
    replace q8:=aA.mk (drew_ q8.out)
    replace q9:=aA.mk (drew_ q9.out)
    replace qY:=aA.mk (drew_ qY.out)
    replace nb:=aA.mk (drew_ nb.out)
    replace HE:=aA.mk (HE.out.below (bG (Below.refl _ _)))
    replace HM:=aA.mk (HM.out.drew)
    generalize w11.drew=w2 at q6 q7 q8 q9 qY nb HE HM hHeld ⊢
    refine pur_ 0 115 ?_
    refine pur_ 1 116 ?_
    refine pur_ 2 117 ?_
    refine pur_ 4 119 ?_
    refine pur_ 6 121 ?_
    refine tak_ 3 118 (.pointer (some ⟨bp,0,none⟩)) ?_ hHeld ?_
    ·intro w' hS
     have c4:=(aC hS.2.1 4).trans rfl
     clear hHeld hS
     go_simp
    refine tak_ 5 120 (.int .i64 (sn:Int)) ?_ hHeld ?_
    ·intro w' hS
     have c2:=(aC hS.1 2).trans rfl
     clear hHeld hS
     go_simp
    refine pur_ 7 122 ?_
    refine tak_ 8 123 (.int .u32 (h:Int)) ?_ hHeld ?_
    ·intro w' hS
     have c7:=(aC hS.2.2 sn).trans hat
     clear hHeld hS
     go_simp
    refine on_ 9 124 (fun K hK=>?_)
    refine goe_ Tryz.func125 #[.pointer (some ⟨bp,0,none⟩),.int .u32 (h:Int)] ?_
    refine (PT.out _ HE.out.pool).mono ?_
    rintro e w9 ⟨rfl,hb⟩
    refine ⟨_,rfl,?_⟩
    replace q6:=aA.mk (aE q6.out hb)
    replace q7:=aA.mk (aE q7.out hb)
    replace q8:=aA.mk (aE q8.out hb)
    replace q9:=aA.mk (aE q9.out hb)
    replace qY:=aA.mk (aE qY.out hb)
    replace nb:=aA.mk (aE nb.out hb)
    replace HE:=aA.mk (HE.out.below hb)
    replace HM:=aA.mk (HM.out.step hb)
    clear hb hHeld
    refine hK.out _ _ ⟨q9.out,nb.out,q7.out⟩ (fun hHeld=>?_)
    clear hK K
    refine nor_ ?_
    refine pur_ 10 11 ?_
    refine eO (by kernel_rfl) ?_
    obtain ⟨y0,z0,y1,z1,y2,z2,y3,z3,y4,z4,y5,z5⟩:=fW q6.out
    obtain ⟨t0,t1,t2,t3,t4,t5⟩:=eM q8.out
    have n68:w.heap.size+1+1≠w.heap.size:=by omega
    go_wp2_with fail
    change bodyPost _ _ _ _ _ (iU w9 w.heap.size (.slice none 0 0) (.int .i64 (-1)) (.int .i64 (-1)) (.bool false) (.bool false) (.int .i64 11))
    have M8:=fR w9 w.heap.size (.slice none 0 0) (.int .i64 (-1)) (.int .i64 (-1)) (.bool false) (.bool false) (.int .i64 11)
    have p8:=eY q6.out (.slice none 0 0) (.int .i64 (-1)) (.int .i64 (-1)) (.bool false) (.bool false) (.int .i64 11)
    have HEF:=HE.out.nE q6.out M8
    have MF:=HM.out.trans M8 (fun q hq hs=>by exfalso;omega)
    generalize iU w9 w.heap.size (.slice none 0 0) (.int .i64 (-1)) (.int .i64 (-1)) (.bool false) (.bool false) (.int .i64 11)=WF at p8 HEF MF ⊢
    obtain ⟨v0,v1,v2,v3,v4,v5⟩:=eM p8
    exact bodyPost_ret (v:= .agg #[.slice none 0 0,.int .i64 (-1),.int .i64 (-1),.bool false,.bool false,.int .i64 11]) (by simp [results,Tryz.results65,go_sem, *]) rfl (by rw [HXS.out];exact ⟨_,rfl,Kd.lA _ _ _ _ _,MF,HEF⟩)
   ·obtain ⟨u',hu⟩:∃ u':Nat,s.f (h:Int)=(u':Int)+1:=⟨(s.f (h:Int) - 1).toNat,by have:=(HO.out.who h).1;omega⟩
    have hul:u'<s.rs.length:=by have:=(HO.out.who h).2;omega
    have HXS:=aA.mk ((hx0.trans (if_neg hz')).trans (if_neg hf))
    clear hx0
    rw [hu,show ((u':Int)+1 - 1).toNat=u' from by omega,show s.rs.getD u' nP=s.rs[u'] from by rw [List.getD_eq_getElem?_getD,List.getElem?_eq_getElem hul,Option.getD_some],show ((h:Int)).toNat=h from by omega] at HXS
    have PT:=aA.mk (fun W (hW:iG W bp gr cap mb p.m s.took rest s.rs s.f)=>CD bp gr cap mb p.m s.took rest s.rs s.f h W hW (by omega) (by omega) u' hul hu)
    refine dB (n:=11) (S:=fun w'=>w'.heap[X]?=some (.cells #[.int .i64 23,.int .i64 d,.int .i64 (sn:Int),.int .i64 ti,.int .i64 u,.int .i64 ar,.int .u32 k,.int .i64 to_] 214 (0,0))∧w'.heap[be]?=some (.cells #[.slice (some ⟨cg,0,none⟩) p.l.length capl,.int .i64 p.lo,.int .i64 p.un,.pointer (some ⟨bm,0,none⟩),.pointer (some ⟨bp,0,none⟩),.slice (some ⟨gk,0,none⟩) s.cs.length s.cs.length] 149 (0,0))∧w'.heap[w.heap.size+1]?=some (.cells #[.int .u32 r0,.int .u32 r1,.int .u32 r2,.int .u32 r3,.int .u32 r4,.int .u32 r5,.int .u32 r6,.int .u32 r7,.int .i64 (pc+1)] 192 (0,0))) (ds:= []) #[false,false,false,false,false,false,false,false,false,false,false] (by kernel_rfl) rfl rfl ⟨q9.out,nb.out,q7.out⟩ (fun hHeld=>?_)
    replace q6:=aA.mk (drew_ q6.out)
    replace q7:=aA.mk (drew_ q7.out)
    replace q8:=aA.mk (drew_ q8.out)
    replace q9:=aA.mk (drew_ q9.out)
    replace qY:=aA.mk (drew_ qY.out)
    replace nb:=aA.mk (drew_ nb.out)
    replace HE:=aA.mk (HE.out.below (bG (Below.refl _ _)))
    replace HM:=aA.mk (HM.out.drew)
    generalize w11.drew=w2 at q6 q7 q8 q9 qY nb HE HM hHeld ⊢
    refine pur_ 0 115 ?_
    refine pur_ 1 116 ?_
    refine pur_ 2 117 ?_
    refine pur_ 4 119 ?_
    refine pur_ 6 121 ?_
    refine tak_ 3 118 (.pointer (some ⟨bp,0,none⟩)) ?_ hHeld ?_
    ·intro w' hS
     have c4:=(aC hS.2.1 4).trans rfl
     clear hHeld hS
     go_simp
    refine tak_ 5 120 (.int .i64 (sn:Int)) ?_ hHeld ?_
    ·intro w' hS
     have c2:=(aC hS.1 2).trans rfl
     clear hHeld hS
     go_simp
    refine pur_ 7 122 ?_
    refine tak_ 8 123 (.int .u32 (h:Int)) ?_ hHeld ?_
    ·intro w' hS
     have c7:=(aC hS.2.2 sn).trans hat
     clear hHeld hS
     go_simp
    refine on_ 9 124 (fun K hK=>?_)
    refine goe_ Tryz.func125 #[.pointer (some ⟨bp,0,none⟩),.int .u32 (h:Int)] ?_
    refine (PT.out _ HE.out.pool).mono ?_
    rintro e w9 ⟨rfl,hm,hP⟩
    have hS9:∀ q,(q=s.rs[u'].b∨q=s.rs[u'].g∨q=mb)→q=mb∨∃ r∈s.rs,q=r.b∨q=r.g:=fun q hq=>by
     rcases hq with e|e|e
     ·exact .inr ⟨_,List.getElem_mem hul,.inl e⟩
     ·exact .inr ⟨_,List.getElem_mem hul,.inr e⟩
     ·exact .inl e
    replace q6:=aA.mk (HE.out.nS hm hS9 q6.out (by decide) (by decide))
    replace q7:=aA.mk (HE.out.nS hm hS9 q7.out (by decide) (by decide))
    replace q8:=aA.mk (HE.out.nS hm hS9 q8.out (by decide) (by decide))
    replace q9:=aA.mk (HE.out.nS hm hS9 q9.out (by decide) (by decide))
    replace qY:=aA.mk (HE.out.nS hm hS9 qY.out (by decide) (by decide))
    replace nb:=aA.mk (HE.out.nS hm hS9 nb.out (by decide) (by decide))
    replace HM:=aA.mk (HM.out.trans hm (fun q _ hq=> .inr (.inr (hS9 q hq))))
    replace HE:=aA.mk (HE.out.pools hm hS9 hP (A9 hul (put_b _ _ _) (put_g _ _ _)))
    clear hm hP hS9 hHeld
    refine ⟨_,rfl,?_⟩
    refine hK.out _ _ ⟨q9.out,nb.out,q7.out⟩ (fun hHeld=>?_)
    clear hK K
    refine nor_ ?_
    refine pur_ 10 11 ?_
    refine eO (by kernel_rfl) ?_
    have HMw:=HM
    have E:=aA.mk (fun W (hE:jQ W ⟨be,bm,bc,gc,bp,gr,cap,mb,gk,B,some ⟨cg,0,none⟩,capl,vs,vb,rest⟩ p ⟨s.xs,s.rs.set u' (oB p.m s.rs[u'] (eR h)),jT s.f (h:Int) 0,s.took,s.cs⟩)=>iA be gk capl bm bp (some ⟨cg,0,none⟩) p.l p.lo p.un s.cs t ⟨r0,r1,r2,r3,r4,r5,r6,r7,pc+1⟩ 0 (-1) 0 false false _ W hE.bI (Kd.dC hE.code).2.2 (Kd.dC hE.code).2.1 HO.out.good.l64 (fun i hi=>(HO.out.ins i hi).ok) hE.cores ht (by have:=HO.out.nc;have:=HO.out.good.n64;omega) cok rfl)
    obtain ⟨x0,x1,x2,x3,x4,x5,x6,x7,x8⟩:=oH q7.out
    obtain ⟨u0,u1,u2,u3,u4,u5⟩:=eM qY.out
    have ng:w.heap.size≠gk:=by have:=aZ H.out.cores;dsimp only at this;omega
    unfold dH at HXS
    revert E HXS
    generalize (go p.l t 256 ⟨r0,r1,r2,r3,r4,r5,r6,r7,pc+1⟩ [])=rr
    intro HXS E
    obtain ⟨c',ms,dd,er⟩:=rr
    go_wp2_with (go_at_call 128;refine (E.out _ HE.out).mono ?_;rintro e w4 ⟨v,rfl,hR,hm4,hg4⟩;have HV0:=aA.mk (Kd.cT hR HMw.out.size);have HM4:=aA.mk hm4;have HE4:=aA.mk (HE.out.core hm4 hg4 (by simp));have n8:=aA.mk (hm4.bI q6.out ng);clear hR hm4 hg4;obtain ⟨Av,cv,hv,_,_⟩:=Kd.bY HV0.out;subst hv;obtain ⟨y0,z0,y1,z1,y2,z2,y3,z3,y4,z4,y5,z5⟩:=fW n8.out)
    change bodyPost _ _ _ _ _ (iU w4 w.heap.size (.slice Av ms.length cv) (.int .i64 dd) (.int .i64 (-1)) (.bool false) (.bool false) (.int .i64 er))
    have M8:=fR w4 w.heap.size (.slice Av ms.length cv) (.int .i64 dd) (.int .i64 (-1)) (.bool false) (.bool false) (.int .i64 er)
    have p8:=eY n8.out (.slice Av ms.length cv) (.int .i64 dd) (.int .i64 (-1)) (.bool false) (.bool false) (.int .i64 er)
    have HVF:=iT HV0.out M8 (fun q hq=>by rcases hq with rfl;exact ⟨_,_,n8.out,by decide⟩)
    have HEF:=HE4.out.nE n8.out M8
    have MF:=((HMw.out.trans HM4.out (fun q _ hs=> .inr (.inl hs))).trans M8 (fun q hq hs=>by exfalso;omega))
    generalize iU w4 w.heap.size (.slice Av ms.length cv) (.int .i64 dd) (.int .i64 (-1)) (.bool false) (.bool false) (.int .i64 er)=WF at p8 HVF HEF MF ⊢
    obtain ⟨v0,v1,v2,v3,v4,v5⟩:=eM p8
    exact bodyPost_ret (v:= .agg #[.slice Av ms.length cv,.int .i64 dd,.int .i64 (-1),.bool false,.bool false,.int .i64 er]) (by simp [results,Tryz.results65,go_sem, *]) rfl (by rw [HXS.out];exact ⟨_,rfl,HVF,MF,HEF⟩)
def adr (p:dU) (ar:Int) (v:Nat):Int:=if 0≤ar∧ar<p.szs.length∧(hIdx v:Int)<rd p.szs ar then rd (dM p.szs p.szs.length) ar+hIdx v else 0
theorem LI {l:List Int} {ar:Int} (h0:0≤ar) (h1:ar<l.length):rd (dM l l.length) ar=dX l ar.toNat:=by
 unfold rd dM
 have:ar.toNat<l.length:=by omega
 rw [List.getD_eq_getElem?_getD,List.getElem?_map,List.getElem?_range this]
 rfl
theorem addrX {W:World} {b:XB} {p:dU} {s:XS} (h:jQ W b p s) (g:vS p p.r7.length) (ar:Int) (v:Nat) (hv:v<4294967296):
  Calls Tryz.prog 126 #[.pointer (some ⟨b.bm,0,none⟩),.int .i64 ar,.int .u32 (v:Int)] W fun e w'=>e= .returned (.tuple #[.int .i64 (adr p ar v),.bool (decide (0≤ar∧ar<p.szs.length∧(hIdx v:Int)<rd p.szs ar))])∧Below W.heap.size W w':=by
 obtain ⟨As,cs,e1,_,hC⟩:=Kd.bY h.mem.sizes
 obtain ⟨Ab,cb,e2,_,hG⟩:=Kd.bY h.mem.begins
 have hb:=h.mem.bI
 rw [e1,e2,oD] at hb
 rw [oD] at hG
 unfold adr
 by_cases hk:0≤ar∧ar<p.szs.length∧(hIdx v:Int)<rd p.szs ar
 ·rw [if_pos hk,decide_eq_true hk]
  refine (WZ b.bm cs cb _ As Ab p.szs (dM p.szs p.szs.length) ar v W hb hC hG g.h8 hv hk.1 hk.2.1 hk.2.2 ?_).mono (fun e w' hh=>⟨hh.1,hh.2.below⟩)
  rw [LI hk.1 hk.2.1]
  have:=uL p.szs g.hr ar.toNat (by omega)
  have:=g.h8
  omega
 ·rw [if_neg hk,decide_eq_false hk]
  by_cases ha:0≤ar∧ar<p.szs.length
  ·exact (SE b.bm cs cb _ As Ab p.szs (dM p.szs p.szs.length) ar v W hb hC hG g.h8 hv ha.1 ha.2 (by omega)).mono (fun e w' hh=>⟨hh.1,hh.2.below⟩)
  ·exact (NA b.bm cs cb _ As Ab p.szs (dM p.szs p.szs.length) ar v W hb hC hG g.h8 hv (by omega)).mono (fun e w' hh=>⟨hh.1,hh.2.below⟩)
theorem AN (l:List Int) (hl:∀ s∈l,0≤s∧s≤4096) (i:Nat):∀ d,i+d≤l.length→dX l i≤dX l (i+d)
 |0,_=>Int.le_refl _
 |d+1,h=>by
  have h1:=AN l hl i d (by omega)
  have h2:=hl _ (List.getElem_mem (show i+d<l.length by omega))
  rw [← Nat.add_assoc,o8 l (i+d) (by omega),List.getD_eq_getElem?_getD,List.getElem?_eq_getElem (show i+d<l.length by omega),Option.getD_some]
  omega
theorem adr_in {p:dU} (g:vS p p.r7.length) {ar:Int} {v:Nat} (hk:0≤ar∧ar<p.szs.length∧(hIdx v:Int)<rd p.szs ar):adr p ar v=rd (dM p.szs p.szs.length) ar+hIdx v∧0≤adr p ar v∧adr p ar v<p.xs.length:=by
 have e:adr p ar v=rd (dM p.szs p.szs.length) ar+hIdx v:=if_pos hk
 rw [e]
 refine ⟨rfl,?_⟩
 rw [LI hk.1 hk.2.1]
 have h1:=uL p.szs g.hr ar.toNat (by omega)
 have h2:=o8 p.szs ar.toNat (by omega)
 have h3:=AN p.szs g.hr (ar.toNat+1) (p.szs.length - (ar.toNat+1)) (by omega)
 rw [show ar.toNat+1+(p.szs.length - (ar.toNat+1))=p.szs.length by omega,g.hsum] at h3
 have h4:rd p.szs ar=p.szs.getD ar.toNat 0:=rfl
 omega
theorem MY (c:Cr) (xs:List Int) (a:Nat) (i:dA) (late:Bool) (hc:c.ok) (hx:∀ x∈xs,0≤x∧x<4294967296):(dS c xs a i late).1.ok∧(dS c xs a i late).2.1.length=xs.length:=by
 have hv:=pI hx a
 have tX:=fun (d:Int)=>Cr.lC hc d _ hv.1 hv.2
 unfold dS
 repeat' split
 all_goals (first|exact ⟨tX _,rfl⟩|exact ⟨hc,by simp⟩|exact ⟨tX _,by simp⟩|exact ⟨Cr.lC hc _ _ (by decide) (by decide),by simp⟩|exact ⟨Cr.lC hc _ _ (by decide) (by decide),rfl⟩|exact ⟨Cr.gU (tX _) _,rfl⟩)
theorem I0 (b:XB) (p:dU) (s:XS) (t:Nat) (late:Bool) (w:World) (h:jQ w b p s) (ho:sP p s) (ht:t<s.cs.length) (hg:0≤s.cs[t].pc∧s.cs[t].pc<p.l.length) (hm:16≤(bJ p.l s.cs[t].pc).op∧(bJ p.l s.cs[t].pc).op≤23) (hk:s.took<maxLen) (hop:16≤(bJ p.l s.cs[t].pc).op∧(bJ p.l s.cs[t].pc).op<22):
  Calls Tryz.prog 65 #[.pointer (some ⟨b.be,0,none⟩),.int .i64 (t:Int),.bool late] w fun e w'=>
   ∃ v,e= .returned (.agg #[v,.int .i64 (bR p s t late).1.dn,.int .i64 (bR p s t late).1.addr,.bool (bR p s t late).1.wr,.bool (bR p s t late).1.st,.int .i64 (bR p s t late).1.er])∧Kd.R (Kd.int .i64) 3 w' w.heap.size (fun _=>True) v (bR p s t late).1.marks∧Mod (oJ b s) w w'∧jQ w' b p (bR p s t late).2:=by
 have H:=aA.mk h
 have HO:=aA.mk ho
 have HT:=aA.mk ht
 have HG:=aA.mk hg
 have HM:=aA.mk hm
 have HOP:=aA.mk hop
 obtain ⟨⟨k0,k1,k2,k3,k4,k5,k6,k7,k8⟩,j0,j1,j2,j3,j4,j5,j6,j7,j8⟩:=kH h.cores ht
 have b5:=(aC h.bI 5).trans rfl
 have zb:=aZ h.bI
 have zk:=aZ h.cores
 have i0:(0:Int)≤(t:Int):=by omega
 have i1:(t:Int)<(s.cs.length:Int):=by omega
 have i2:(s.cs.length:Int)≤64:=by have:=ho.nc;have:=ho.good.n64;omega
 obtain ⟨c,hc⟩:∃ c,c=s.cs[t]:=⟨_,rfl⟩
 have HC:=aA.mk hc
 rw [← hc] at HG HM HOP k0 k1 k2 k3 k4 k5 k6 k7 k8
 obtain ⟨cg,cur,hA,CG,x0,x1,x2,x3,x4,x5,x6,x7⟩:=qH h.code c.pc HG.out.1 HG.out.2
 obtain ⟨i,hi⟩:∃ i,i=bJ p.l c.pc:=⟨_,rfl⟩
 have HI:=aA.mk hi
 have HX:=aA.mk (⟨x0,x1,x2,x3,x4,x5,x6,x7⟩:_∧_∧_∧_∧_∧_∧_∧_)
 have NG:=aA.mk CG
 rw [← hi] at HM HX HOP
 obtain ⟨op,d,si,ti,u,ar,k,to_⟩:=i
 obtain ⟨be,bm,bc,gc,bp,gr,cap,mb,gk,B,A,capl,vs,vb,rest⟩:=b
 dsimp only at k0 k1 k2 k3 k4 k5 k6 k7 k8 HM HOP HX hA zb zk b5 CG
 subst hA
 have HB:=aA.mk h.bI
 dsimp only at HB
 clear h ho hg hm hop hc hi x0 x1 x2 x3 x4 x5 x6 x7 CG
 obtain ⟨r0,r1,r2,r3,r4,r5,r6,r7,pc⟩:=c
 dsimp only at k0 k1 k2 k3 k4 k5 k6 k7 k8 HG HM HX HI
 go_enter Tryz.func65,Tryz.ntmps65
 go_wp2_with fail
 have hbl:=mM w (.cells #[.slice none 0 0,.int .i64 0,.int .i64 0,.bool false,.bool false,.int .i64 0] 136) (.cells #[.int .u32 r0,.int .u32 r1,.int .u32 r2,.int .u32 r3,.int .u32 r4,.int .u32 r5,.int .u32 r6,.int .u32 r7,.int .i64 pc] 192) (.cells #[.slice none 0 0,.int .i64 (-1),.int .i64 (-1),.bool false,.bool false,.int .i64 11] 136)
 have n6:=aA.mk hbl.1
 have n7:=aA.mk hbl.2.1
 have n8:=aA.mk hbl.2.2
 have HW:=aA.mk (show Below w.heap.size w (((w.alloc _).alloc _).alloc _) from aD (aD (aD (Below.refl w.heap.size w) (.cells #[.slice none 0 0,.int .i64 0,.int .i64 0,.bool false,.bool false,.int .i64 0] 136)) (.cells #[.int .u32 r0,.int .u32 r1,.int .u32 r2,.int .u32 r3,.int .u32 r4,.int .u32 r5,.int .u32 r6,.int .u32 r7,.int .i64 pc] 192)) (.cells #[.slice none 0 0,.int .i64 (-1),.int .i64 (-1),.bool false,.bool false,.int .i64 11] 136))
 clear hbl
 generalize (((w.alloc (.cells #[.slice none 0 0,.int .i64 0,.int .i64 0,.bool false,.bool false,.int .i64 0] 136)).alloc (.cells #[.int .u32 r0,.int .u32 r1,.int .u32 r2,.int .u32 r3,.int .u32 r4,.int .u32 r5,.int .u32 r6,.int .u32 r7,.int .i64 pc] 192)).alloc (.cells #[.slice none 0 0,.int .i64 (-1),.int .i64 (-1),.bool false,.bool false,.int .i64 11] 136))=w1 at n6 n7 n8 HW ⊢
 have nb:=aA.mk (aE HB.out HW.out)
 have ng:=aA.mk (aE NG.out HW.out)
 clear k0 k1 k2 k3 k4 k5 k6 k7 k8 j0 j1 j2 j3 j4 j5 j6 j7 j8 b5 zb zk
 have e0:decide (pc<0)=false:=decide_eq_false (by have:=HG.out;omega)
 have e1:decide ((p.l.length:Int)≤pc)=false:=decide_eq_false (by have:=HG.out;omega)
 have g0:=HG.out.1
 have g1:=HG.out.2
 have l64:(p.l.length:Int)≤64:=by have:=HO.out.good.l64;omega
 have PM:=aA.mk (fun W=>(mP ⟨op,d,si,ti,u,ar,k,to_⟩ W).mono (R':=fun e w'=>e= .returned (.bool true)∧Below W.heap.size W w') (fun e w' hh=>⟨by rw [hh.1,decide_eq_true HM.out],hh.2⟩))

 refine dB (n:=27) (S:=fun w'=>w'.heap[w.heap.size+1]?=some (.cells #[.int .u32 r0,.int .u32 r1,.int .u32 r2,.int .u32 r3,.int .u32 r4,.int .u32 r5,.int .u32 r6,.int .u32 r7,.int .i64 pc] 192 (0,0))∧w'.heap[be]?=some (.cells #[.slice (some ⟨cg,0,none⟩) p.l.length capl,.int .i64 p.lo,.int .i64 p.un,.pointer (some ⟨bm,0,none⟩),.pointer (some ⟨bp,0,none⟩),.slice (some ⟨gk,0,none⟩) s.cs.length s.cs.length] 149 (0,0))∧w'.heap[cg]?=some (.cells cur 214 (0,0))) (ds:= []) #[false,false,false,false,false,false,false,false,false,false,false,false,false,false,false,false,false,false,false,false,false,false,false,false,false,false,false] (by kernel_rfl) rfl rfl ⟨n7.out,nb.out,ng.out⟩ (fun hHeld=>?_)
 replace n6:=aA.mk (drew_ n6.out)
 replace n7:=aA.mk (drew_ n7.out)
 replace n8:=aA.mk (drew_ n8.out)
 replace nb:=aA.mk (drew_ nb.out)
 replace ng:=aA.mk (drew_ ng.out)
 replace HW:=aA.mk (bG HW.out)
 generalize w1.drew=w2 at n6 n7 n8 nb ng HW hHeld ⊢
 refine pur_ 0 22 ?_
 refine tak_ 1 23 (.int .i64 pc) ?_ hHeld ?_
 ·intro w' hS
  have c8:=(aC hS.1 8).trans rfl
  clear hHeld hS
  go_simp
 refine pur_ 2 24 ?_
 refine pur_ 3 25 ?_
 refine pur_ 4 26 ?_
 refine pur_ 6 28 ?_
 refine pur_ 7 29 ?_
 refine pur_ 8 30 ?_
 refine pur_ 9 31 ?_
 refine tak_ 5 27 (.int .i64 pc) ?_ hHeld ?_
 ·intro w' hS
  have c8:=(aC hS.1 8).trans rfl
  clear hHeld hS
  go_simp
 refine tak_ 10 32 (.slice (some ⟨cg,0,none⟩) p.l.length capl) ?_ hHeld ?_
 ·intro w' hS
  have c0:=(aC hS.2.1 0).trans rfl
  clear hHeld hS
  go_simp
 refine pur_ 11 33 ?_
 refine pur_ 12 34 ?_
 refine pur_ 13 35 ?_
 refine pur_ 14 36 ?_
 refine pur_ 15 37 ?_
 refine pur_ 16 38 ?_
 refine pur_ 17 39 ?_
 refine pur_ 18 40 ?_
 refine pur_ 20 42 ?_
 refine tak_ 19 41 (.slice (some ⟨cg,0,none⟩) p.l.length capl) ?_ hHeld ?_
 ·intro w' hS
  have c0:=(aC hS.2.1 0).trans rfl
  clear hHeld hS
  go_simp
 refine tak_ 21 43 (.int .i64 pc) ?_ hHeld ?_
 ·intro w' hS
  have c8:=(aC hS.1 8).trans rfl
  clear hHeld hS
  go_simp
 refine pur_ 22 44 ?_
 refine tak_ 23 45 (.agg #[.int .i64 op,.int .i64 d,.int .i64 si,.int .i64 ti,.int .i64 u,.int .i64 ar,.int .u32 k,.int .i64 to_]) ?_ hHeld ?_
 ·intro w' hS
  have y0:=(aC hS.2.2 (pc.toNat*8)).trans HX.out.1
  have y1:=(aC hS.2.2 (pc.toNat*8+1)).trans HX.out.2.1
  have y2:=(aC hS.2.2 (pc.toNat*8+2)).trans HX.out.2.2.1
  have y3:=(aC hS.2.2 (pc.toNat*8+3)).trans HX.out.2.2.2.1
  have y4:=(aC hS.2.2 (pc.toNat*8+4)).trans HX.out.2.2.2.2.1
  have y5:=(aC hS.2.2 (pc.toNat*8+5)).trans HX.out.2.2.2.2.2.1
  have y6:=(aC hS.2.2 (pc.toNat*8+6)).trans HX.out.2.2.2.2.2.2.1
  have y7:=(aC hS.2.2 (pc.toNat*8+7)).trans HX.out.2.2.2.2.2.2.2
  clear hHeld hS
  go_simp
 refine on_ 24 46 (fun K hK=>?_)
 refine goe_ Tryz.func123 #[.agg #[.int .i64 op,.int .i64 d,.int .i64 si,.int .i64 ti,.int .i64 u,.int .i64 ar,.int .u32 k,.int .i64 to_]] ?_
 refine (PM.out _).mono ?_
 rintro e w9 ⟨rfl,hb⟩
 refine ⟨_,rfl,?_⟩
 replace n6:=aA.mk (aE n6.out hb)
 replace n7:=aA.mk (aE n7.out hb)
 replace n8:=aA.mk (aE n8.out hb)
 replace nb:=aA.mk (aE nb.out hb)
 replace ng:=aA.mk (aE ng.out hb)
 replace HW:=aA.mk (bA HW.out hb)
 clear hb hHeld
 refine hK.out _ _ ⟨n7.out,nb.out,ng.out⟩ (fun hHeld=>?_)
 clear hK K
 refine nor_ ?_
 refine pur_ 25 47 ?_
 refine pur_ 26 48 ?_
 refine eO (by kernel_rfl) ?_
 go_wp2_with fail
 clear PM e0 e1
 have c8:w9.cell? ⟨w.heap.size+1,8,none⟩=some (.int .i64 pc):=(aC n7.out 8).trans rfl
 have c0:w9.cell? ⟨be,0,none⟩=some (.slice (some ⟨cg,0,none⟩) p.l.length capl):=(aC nb.out 0).trans rfl

 have y0:=(aC ng.out (pc.toNat*8)).trans HX.out.1
 have y1:=(aC ng.out (pc.toNat*8+1)).trans HX.out.2.1
 have y2:=(aC ng.out (pc.toNat*8+2)).trans HX.out.2.2.1
 have y3:=(aC ng.out (pc.toNat*8+3)).trans HX.out.2.2.2.1
 have y4:=(aC ng.out (pc.toNat*8+4)).trans HX.out.2.2.2.2.1
 have y5:=(aC ng.out (pc.toNat*8+5)).trans HX.out.2.2.2.2.2.1
 have y6:=(aC ng.out (pc.toNat*8+6)).trans HX.out.2.2.2.2.2.2.1
 have y7:=(aC ng.out (pc.toNat*8+7)).trans HX.out.2.2.2.2.2.2.2
 have z1:=aZ n7.out
 have z2:=aZ nb.out
 have z3:=aZ ng.out
 go_region
 obtain ⟨X,hX⟩:∃ X,X=w9.heap.size:=⟨_,rfl⟩
 have n9:=aA.mk (show (w9.alloc (.cells #[.int .i64 op,.int .i64 d,.int .i64 si,.int .i64 ti,.int .i64 u,.int .i64 ar,.int .u32 k,.int .i64 to_] 214)).drew.heap[X]?=some (.cells #[.int .i64 op,.int .i64 d,.int .i64 si,.int .i64 ti,.int .i64 u,.int .i64 ar,.int .u32 k,.int .i64 to_] 214 (0,0)) from by rw [hX];exact bF w9 _)
 have m6:=aA.mk (show (w9.alloc (.cells #[.int .i64 op,.int .i64 d,.int .i64 si,.int .i64 ti,.int .i64 u,.int .i64 ar,.int .u32 k,.int .i64 to_] 214)).drew.heap[w.heap.size]?=some _ from aV n6.out _)
 have m7:=aA.mk (show (w9.alloc (.cells #[.int .i64 op,.int .i64 d,.int .i64 si,.int .i64 ti,.int .i64 u,.int .i64 ar,.int .u32 k,.int .i64 to_] 214)).drew.heap[w.heap.size+1]?=some _ from aV n7.out _)
 have m8:=aA.mk (show (w9.alloc (.cells #[.int .i64 op,.int .i64 d,.int .i64 si,.int .i64 ti,.int .i64 u,.int .i64 ar,.int .u32 k,.int .i64 to_] 214)).drew.heap[w.heap.size+1+1]?=some _ from aV n8.out _)
 have m9:=aA.mk (show Below w.heap.size w (w9.alloc (.cells #[.int .i64 op,.int .i64 d,.int .i64 si,.int .i64 ti,.int .i64 u,.int .i64 ar,.int .u32 k,.int .i64 to_] 214)).drew from bG (aD HW.out _))
 have z4:w.heap.size+1+1<X:=by rw [hX];exact aZ n8.out
 rw [← hX]
 clear n6 n7 n8 nb ng HW c8 c0 y0 y1 y2 y3 y4 y5 y6 y7 z1 z2 z3 hX
 generalize (w9.alloc (.cells #[.int .i64 op,.int .i64 d,.int .i64 si,.int .i64 ti,.int .i64 u,.int .i64 ar,.int .u32 k,.int .i64 to_] 214)).drew=w10 at n9 m6 m7 m8 m9 ⊢
 have c8:=(aC m7.out 8).trans rfl
 have f8:=aG m7.out 8
 have hs:wrap64 (pc+1)=pc+1:=by unfold wrap64;omega


 have c9:=(aC n9.out 0).trans rfl
 have zX:=aZ n9.out
 have nX:X≠w.heap.size+1:=by omega
 have e22:(op==22)=false:=beq_eq_false_iff_ne.mpr (by have:=HOP.out;omega)
 have e23:(op==23)=false:=beq_eq_false_iff_ne.mpr (by have:=HOP.out;omega)
 go_wp2_with fail
 clear c9 zX nX e22 e23
 obtain ⟨Y,hY⟩:∃ Y,Y=w10.heap.size:=⟨_,rfl⟩
 have q6:=aA.mk (show ((w10.setCell ⟨w.heap.size+1,8,none⟩ (.int .i64 (pc+1))).alloc (.cells #[.slice none 0 0,.int .i64 0,.int .i64 (-1),.bool false,.bool false,.int .i64 0] 136)).heap[w.heap.size]?=some (.cells #[.slice none 0 0,.int .i64 0,.int .i64 0,.bool false,.bool false,.int .i64 0] 136 (0,0)) from aV (bB (p:=⟨w.heap.size+1,8,none⟩) m6.out (by simp) _) _)
 have q7:=aA.mk (show ((w10.setCell ⟨w.heap.size+1,8,none⟩ (.int .i64 (pc+1))).alloc (.cells #[.slice none 0 0,.int .i64 0,.int .i64 (-1),.bool false,.bool false,.int .i64 0] 136)).heap[w.heap.size+1]?=some (.cells #[.int .u32 r0,.int .u32 r1,.int .u32 r2,.int .u32 r3,.int .u32 r4,.int .u32 r5,.int .u32 r6,.int .u32 r7,.int .i64 (pc+1)] 192 (0,0)) from aV ((bE m7.out 8 _).trans rfl) _)
 have q8:=aA.mk (show ((w10.setCell ⟨w.heap.size+1,8,none⟩ (.int .i64 (pc+1))).alloc (.cells #[.slice none 0 0,.int .i64 0,.int .i64 (-1),.bool false,.bool false,.int .i64 0] 136)).heap[w.heap.size+1+1]?=some (.cells #[.slice none 0 0,.int .i64 (-1),.int .i64 (-1),.bool false,.bool false,.int .i64 11] 136 (0,0)) from aV (bB (p:=⟨w.heap.size+1,8,none⟩) m8.out (by simp) _) _)
 have q9:=aA.mk (show ((w10.setCell ⟨w.heap.size+1,8,none⟩ (.int .i64 (pc+1))).alloc (.cells #[.slice none 0 0,.int .i64 0,.int .i64 (-1),.bool false,.bool false,.int .i64 0] 136)).heap[X]?=some (.cells #[.int .i64 op,.int .i64 d,.int .i64 si,.int .i64 ti,.int .i64 u,.int .i64 ar,.int .u32 k,.int .i64 to_] 214 (0,0)) from aV (bB (p:=⟨w.heap.size+1,8,none⟩) n9.out (by intro e;dsimp only at e;omega) _) _)
 have qY:=aA.mk (show ((w10.setCell ⟨w.heap.size+1,8,none⟩ (.int .i64 (pc+1))).alloc (.cells #[.slice none 0 0,.int .i64 0,.int .i64 (-1),.bool false,.bool false,.int .i64 0] 136)).heap[Y]?=some (.cells #[.slice none 0 0,.int .i64 0,.int .i64 (-1),.bool false,.bool false,.int .i64 0] 136 (0,0)) from by have:=bF (w10.setCell ⟨w.heap.size+1,8,none⟩ (.int .i64 (pc+1))) (.cells #[.slice none 0 0,.int .i64 0,.int .i64 (-1),.bool false,.bool false,.int .i64 0] 136);rw [hY];simpa using this)
 have HW:=aA.mk (show Below w.heap.size w ((w10.setCell ⟨w.heap.size+1,8,none⟩ (.int .i64 (pc+1))).alloc (.cells #[.slice none 0 0,.int .i64 0,.int .i64 (-1),.bool false,.bool false,.int .i64 0] 136)) from aD (bM (j:=8) m9.out (by omega)) _)
 have zY:X<Y:=by rw [hY];exact aZ n9.out
 try simp only [World.size_setCell] at*
 rw [← hY]
 clear n9 m6 m7 m8 m9 c8 f8 hs hY
 generalize ((w10.setCell ⟨w.heap.size+1,8,none⟩ (.int .i64 (pc+1))).alloc (.cells #[.slice none 0 0,.int .i64 0,.int .i64 (-1),.bool false,.bool false,.int .i64 0] 136))=w11 at q6 q7 q8 q9 qY HW ⊢
 have HE:=aA.mk (H.out.below HW.out)
 obtain ⟨sn,rfl⟩:=Int.eq_ofNat_of_zero_le (show 0≤si from by have:=(HO.out.ins _ (iZ HG.out.1 HG.out.2)).ok.s;rw [← HI.out] at this;exact this.1)
 have d8:sn<8:=by have:=(HO.out.ins _ (iZ HG.out.1 HG.out.2)).ok.s;rw [← HI.out] at this;have:=this.2;dsimp only at this;omega
 have dI:(sn:Int)<8:=by omega
 have dJ:(0:Int)≤(sn:Int):=by omega
 have hc0:s.cs.getD t Cr.zero=⟨r0,r1,r2,r3,r4,r5,r6,r7,pc⟩:=by rw [List.getD_eq_getElem?_getD,List.getElem?_eq_getElem HT.out,Option.getD_some];exact HC.out.symm
 have cok:Cr.ok ⟨r0,r1,r2,r3,r4,r5,r6,r7,pc+1⟩:=by have:=HO.out.cs _ (List.getElem_mem HT.out);rw [← HC.out] at this;exact this
 have nb:=aA.mk HE.out.bI
 dsimp only at nb
 have HM0:=HM
 clear HM
 have HM:=aA.mk ((Mod.jE HW.out).mono (T:=oJ ⟨be,bm,bc,gc,bp,gr,cap,mb,gk,B,some ⟨cg,0,none⟩,capl,vs,vb,rest⟩ s) (fun _ _ hf=>hf.elim))
 clear HW
 have hat:=kE ⟨r0,r1,r2,r3,r4,r5,r6,r7,pc+1⟩ sn d8
 have hgo:=Cr.mO cok sn
 obtain ⟨h,hh⟩:=Int.eq_ofNat_of_zero_le hgo.1
 rw [hh] at hat hgo
 have PA:=aA.mk (fun W (hE:jQ W ⟨be,bm,bc,gc,bp,gr,cap,mb,gk,B,some ⟨cg,0,none⟩,capl,vs,vb,rest⟩ p s)=>addrX hE HO.out.good ar h (by omega))
 obtain ⟨ok,hok⟩:∃ ok,ok=decide (0≤ar∧ar<p.szs.length∧(hIdx h:Int)<rd p.szs ar):=⟨_,rfl⟩
 rw [← hok] at PA
 generalize ha:adr p ar h=a at PA
 have HOK:=aA.mk hok
 have HA:=aA.mk ha
 clear hok ha
 refine dB (n:=17) (S:=fun w'=>w'.heap[X]?=some (.cells #[.int .i64 op,.int .i64 d,.int .i64 (sn:Int),.int .i64 ti,.int .i64 u,.int .i64 ar,.int .u32 k,.int .i64 to_] 214 (0,0))∧w'.heap[be]?=some (.cells #[.slice (some ⟨cg,0,none⟩) p.l.length capl,.int .i64 p.lo,.int .i64 p.un,.pointer (some ⟨bm,0,none⟩),.pointer (some ⟨bp,0,none⟩),.slice (some ⟨gk,0,none⟩) s.cs.length s.cs.length] 149 (0,0))∧w'.heap[w.heap.size+1]?=some (.cells #[.int .u32 r0,.int .u32 r1,.int .u32 r2,.int .u32 r3,.int .u32 r4,.int .u32 r5,.int .u32 r6,.int .u32 r7,.int .i64 (pc+1)] 192 (0,0))) (ds:= []) #[false,false,false,false,false,false,false,false,false,false,false,false,false,false,false,false,false] (by kernel_rfl) rfl rfl ⟨q9.out,nb.out,q7.out⟩ (fun hHeld=>?_)
 replace q6:=aA.mk (drew_ q6.out)
 replace q7:=aA.mk (drew_ q7.out)
 replace q8:=aA.mk (drew_ q8.out)
 replace q9:=aA.mk (drew_ q9.out)
 replace qY:=aA.mk (drew_ qY.out)
 replace nb:=aA.mk (drew_ nb.out)
 replace HE:=aA.mk (HE.out.below (bG (Below.refl _ _)))
 replace HM:=aA.mk (HM.out.drew)
 generalize w11.drew=w2 at q6 q7 q8 q9 qY nb HE HM hHeld ⊢
 refine pur_ 0 67 ?_
 refine pur_ 1 68 ?_
 refine pur_ 2 69 ?_
 refine pur_ 4 71 ?_
 refine pur_ 6 73 ?_
 refine pur_ 8 75 ?_
 refine tak_ 3 70 (.pointer (some ⟨bm,0,none⟩)) ?_ hHeld ?_
 ·intro w' hS
  have c3:=(aC hS.2.1 3).trans rfl
  clear hHeld hS
  go_simp
 refine tak_ 5 72 (.int .i64 ar) ?_ hHeld ?_
 ·intro w' hS
  have c5:=(aC hS.1 5).trans rfl
  clear hHeld hS
  go_simp
 refine tak_ 7 74 (.int .i64 (sn:Int)) ?_ hHeld ?_
 ·intro w' hS
  have c2:=(aC hS.1 2).trans rfl
  clear hHeld hS
  go_simp
 refine pur_ 9 76 ?_
 refine tak_ 10 77 (.int .u32 (h:Int)) ?_ hHeld ?_
 ·intro w' hS
  have c7:=(aC hS.2.2 sn).trans hat
  clear hHeld hS
  go_simp
 refine on_ 11 78 (fun K hK=>?_)
 refine goe_ Tryz.func126 #[.pointer (some ⟨bm,0,none⟩),.int .i64 ar,.int .u32 (h:Int)] ?_
 refine (PA.out _ HE.out).mono ?_
 rintro e w9 ⟨rfl,hb⟩
 refine ⟨_,rfl,?_⟩
 replace q6:=aA.mk (aE q6.out hb)
 replace q7:=aA.mk (aE q7.out hb)
 replace q8:=aA.mk (aE q8.out hb)
 replace q9:=aA.mk (aE q9.out hb)
 replace qY:=aA.mk (aE qY.out hb)
 replace nb:=aA.mk (aE nb.out hb)
 replace HE:=aA.mk (HE.out.below hb)
 replace HM:=aA.mk (HM.out.step hb)
 clear hb hHeld
 refine hK.out _ _ ⟨q9.out,nb.out,q7.out⟩ (fun hHeld=>?_)
 clear hK K
 refine nor_ ?_
 refine pur_ 12 66 ?_
 refine pur_ 13 79 ?_
 refine pur_ 14 80 ?_
 refine pur_ 15 12 ?_
 refine pur_ 16 13 ?_
 refine eO (by kernel_rfl) ?_
 have hx00:∀ z:Int,Cr.get ⟨r0,r1,r2,r3,r4,r5,r6,r7,pc+1⟩ sn=z→bR p s t late=(if ¬ (0≤ar∧ar<p.szs.length∧(hIdx z.toNat:Int)<rd p.szs ar) then (vG,s) else if (dS ⟨r0,r1,r2,r3,r4,r5,r6,r7,pc+1⟩ s.xs (rd (dM p.szs p.szs.length) ar+hIdx z.toNat).toNat ⟨op,d,sn,ti,u,ar,k,to_⟩ late).2.2.2=true then (⟨[],-1,((rd (dM p.szs p.szs.length) ar+hIdx z.toNat).toNat:Nat),(dS ⟨r0,r1,r2,r3,r4,r5,r6,r7,pc+1⟩ s.xs (rd (dM p.szs p.szs.length) ar+hIdx z.toNat).toNat ⟨op,d,sn,ti,u,ar,k,to_⟩ late).2.2.1,true,0⟩,⟨(dS ⟨r0,r1,r2,r3,r4,r5,r6,r7,pc+1⟩ s.xs (rd (dM p.szs p.szs.length) ar+hIdx z.toNat).toNat ⟨op,d,sn,ti,u,ar,k,to_⟩ late).2.1,s.rs,s.f,s.took,s.cs.set t (dS ⟨r0,r1,r2,r3,r4,r5,r6,r7,pc+1⟩ s.xs (rd (dM p.szs p.szs.length) ar+hIdx z.toNat).toNat ⟨op,d,sn,ti,u,ar,k,to_⟩ late).1⟩) else dH p ⟨(dS ⟨r0,r1,r2,r3,r4,r5,r6,r7,pc+1⟩ s.xs (rd (dM p.szs p.szs.length) ar+hIdx z.toNat).toNat ⟨op,d,sn,ti,u,ar,k,to_⟩ late).2.1,s.rs,s.f,s.took,s.cs⟩ t (dS ⟨r0,r1,r2,r3,r4,r5,r6,r7,pc+1⟩ s.xs (rd (dM p.szs p.szs.length) ar+hIdx z.toNat).toNat ⟨op,d,sn,ti,u,ar,k,to_⟩ late).1 ((rd (dM p.szs p.szs.length) ar+hIdx z.toNat).toNat:Nat) (dS ⟨r0,r1,r2,r3,r4,r5,r6,r7,pc+1⟩ s.xs (rd (dM p.szs p.szs.length) ar+hIdx z.toNat).toNat ⟨op,d,sn,ti,u,ar,k,to_⟩ late).2.2.1):=by
  intro z hz
  subst hz
  unfold bR
  rw [hc0]
  dsimp only
  rw [← HI.out,if_neg (fun hh=>hh HG.out),if_neg (fun hh=>hh HM0.out),if_neg (fun e=>by have:=HOP.out;dsimp only at e;omega),if_neg (fun e=>by have:=HOP.out;dsimp only at e;omega)]
  rfl
 have hx0:bR p s t late=(if ¬ (0≤ar∧ar<p.szs.length∧(hIdx h:Int)<rd p.szs ar) then (vG,s) else if (dS ⟨r0,r1,r2,r3,r4,r5,r6,r7,pc+1⟩ s.xs (rd (dM p.szs p.szs.length) ar+hIdx h).toNat ⟨op,d,sn,ti,u,ar,k,to_⟩ late).2.2.2=true then (⟨[],-1,((rd (dM p.szs p.szs.length) ar+hIdx h).toNat:Nat),(dS ⟨r0,r1,r2,r3,r4,r5,r6,r7,pc+1⟩ s.xs (rd (dM p.szs p.szs.length) ar+hIdx h).toNat ⟨op,d,sn,ti,u,ar,k,to_⟩ late).2.2.1,true,0⟩,⟨(dS ⟨r0,r1,r2,r3,r4,r5,r6,r7,pc+1⟩ s.xs (rd (dM p.szs p.szs.length) ar+hIdx h).toNat ⟨op,d,sn,ti,u,ar,k,to_⟩ late).2.1,s.rs,s.f,s.took,s.cs.set t (dS ⟨r0,r1,r2,r3,r4,r5,r6,r7,pc+1⟩ s.xs (rd (dM p.szs p.szs.length) ar+hIdx h).toNat ⟨op,d,sn,ti,u,ar,k,to_⟩ late).1⟩) else dH p ⟨(dS ⟨r0,r1,r2,r3,r4,r5,r6,r7,pc+1⟩ s.xs (rd (dM p.szs p.szs.length) ar+hIdx h).toNat ⟨op,d,sn,ti,u,ar,k,to_⟩ late).2.1,s.rs,s.f,s.took,s.cs⟩ t (dS ⟨r0,r1,r2,r3,r4,r5,r6,r7,pc+1⟩ s.xs (rd (dM p.szs p.szs.length) ar+hIdx h).toNat ⟨op,d,sn,ti,u,ar,k,to_⟩ late).1 ((rd (dM p.szs p.szs.length) ar+hIdx h).toNat:Nat) (dS ⟨r0,r1,r2,r3,r4,r5,r6,r7,pc+1⟩ s.xs (rd (dM p.szs p.szs.length) ar+hIdx h).toNat ⟨op,d,sn,ti,u,ar,k,to_⟩ late).2.2.1):=hx00 (h:Int) hh
 clear hx00
 by_cases hin:0≤ar∧ar<p.szs.length∧(hIdx h:Int)<rd p.szs ar
 rotate_left
 ·have HXS:=aA.mk (hx0.trans (if_pos hin))
  have hok:=HOK.out
  rw [decide_eq_false hin] at hok
  clear HOK
  subst hok
  clear hx0
  obtain ⟨y0,z0,y1,z1,y2,z2,y3,z3,y4,z4,y5,z5⟩:=fW q6.out
  obtain ⟨t0,t1,t2,t3,t4,t5⟩:=eM q8.out
  have n68:w.heap.size+1+1≠w.heap.size:=by omega
  go_wp2_with fail
  change bodyPost _ _ _ _ _ (iU w9 w.heap.size (.slice none 0 0) (.int .i64 (-1)) (.int .i64 (-1)) (.bool false) (.bool false) (.int .i64 11))
  have M8:=fR w9 w.heap.size (.slice none 0 0) (.int .i64 (-1)) (.int .i64 (-1)) (.bool false) (.bool false) (.int .i64 11)
  have p8:=eY q6.out (.slice none 0 0) (.int .i64 (-1)) (.int .i64 (-1)) (.bool false) (.bool false) (.int .i64 11)
  have HEF:=HE.out.nE q6.out M8
  have MF:=HM.out.trans M8 (fun q hq hs=>by exfalso;omega)
  generalize iU w9 w.heap.size (.slice none 0 0) (.int .i64 (-1)) (.int .i64 (-1)) (.bool false) (.bool false) (.int .i64 11)=WF at p8 HEF MF ⊢
  obtain ⟨v0,v1,v2,v3,v4,v5⟩:=eM p8
  exact bodyPost_ret (v:= .agg #[.slice none 0 0,.int .i64 (-1),.int .i64 (-1),.bool false,.bool false,.int .i64 11]) (by simp [results,Tryz.results65,go_sem, *]) rfl (by rw [HXS.out];exact ⟨_,rfl,Kd.lA _ _ _ _ _,MF,HEF⟩)
 ·have hk1:=adr_in HO.out.good hin
  rw [HA.out] at hk1
  obtain ⟨A,hA⟩:=Int.eq_ofNat_of_zero_le hk1.2.1
  have hAd:(rd (dM p.szs p.szs.length) ar+hIdx h).toNat=A:=by rw [← hk1.1,hA];rfl
  have hAl:A<s.xs.length:=by have:=HO.out.nx;have:=hk1.2.2;omega
  have hx1:=hx0.trans (if_neg (fun hh=>hh hin))
  rw [hAd] at hx1
  have hok:=HOK.out
  rw [decide_eq_true hin] at hok
  clear HOK HA
  subst hok hA
  clear hx0 hc0 hAd hk1
  have hA64:(A:Int)≤8192:=by have:=HO.out.nx;have:=HO.out.good.hx;omega
  have hAx:=pI HO.out.xs A
  have okx:=HO.out.ins _ (iZ HG.out.1 HG.out.2)
  rw [← HI.out] at okx
  have hpc: -4611686018427387904≤pc+1∧pc+1≤4611686018427387904:=by omega
  have PC:=aA.mk (fun W (hW:cN W be bm bc gc (w.heap.size+1) Y ⟨r0,r1,r2,r3,r4,r5,r6,r7,pc+1⟩ s.xs A 0 false false)=>OI be bm bc gc (w.heap.size+1) Y ⟨r0,r1,r2,r3,r4,r5,r6,r7,pc+1⟩ s.xs A ⟨op,d,sn,ti,u,ar,k,to_⟩ late false W hW hAl (by have:=HO.out.nx;have:=HO.out.good.hx;omega) okx (HOP.out.1) (HOP.out.2) hAx hpc)
  have HXX:=aA.mk hx1
  clear hx1 okx hAx hpc
  obtain ⟨o0,p0,o1,p1,o2,p2,o3,p3,o4,p4,o5,p5⟩:=fW qY.out
  have y0:=(aC q9.out 0).trans rfl
  have y1:=(aC q9.out 1).trans rfl
  have y2:=(aC q9.out 2).trans rfl
  have y3:=(aC q9.out 3).trans rfl
  have y4:=(aC q9.out 4).trans rfl
  have y5:=(aC q9.out 5).trans rfl
  have y6:=(aC q9.out 6).trans rfl
  have y7:=(aC q9.out 7).trans rfl
  have nXY:X≠Y:=by omega
  go_wp2_with fail
  clear o0 p0 o1 p1 o2 p2 o3 p3 o4 p4 o5 p5 y0 y1 y2 y3 y4 y5 y6 y7
  have HE1:=aA.mk (HE.out.nE qY.out ((Mod.refl (fun q=>q=Y) w9).setCell (p:=⟨Y,2,none⟩) rfl (.int .i64 (A:Int))))
  have HM1:=aA.mk (HM.out.trans ((Mod.refl (fun q=>q=Y) w9).setCell (p:=⟨Y,2,none⟩) rfl (.int .i64 (A:Int))) (fun q hq hs=>by exfalso;omega))
  have s6:=aA.mk (bB (p:=⟨Y,2,none⟩) q6.out (by dsimp only;omega) (.int .i64 (A:Int)))
  have s7:=aA.mk (bB (p:=⟨Y,2,none⟩) q7.out (by dsimp only;omega) (.int .i64 (A:Int)))
  have sY:=aA.mk (show (w9.setCell ⟨Y,2,none⟩ (.int .i64 (A:Int))).heap[Y]?=some (.cells #[.slice none 0 0,.int .i64 0,.int .i64 (A:Int),.bool false,.bool false,.int .i64 0] 136 (0,0)) from (bE qY.out 2 _).trans rfl)
  clear q6 q7 q8 q9 qY nb HE HM
  generalize (w9.setCell ⟨Y,2,none⟩ (.int .i64 (A:Int)))=w5 at HE1 HM1 s6 s7 sY ⊢
  go_at_call 127
  refine (PC.out _ ⟨⟨_,_,_,_,_,HE1.out.bI⟩,⟨_,_,HE1.out.mem.bI⟩,HE1.out.mem.cblk,HE1.out.mem.crow,s7.out,sY.out⟩).mono ?_
  have hac:=MY ⟨r0,r1,r2,r3,r4,r5,r6,r7,pc+1⟩ s.xs A ⟨op,d,sn,ti,u,ar,k,to_⟩ late cok HO.out.xs
  revert HXX hac
  generalize dS ⟨r0,r1,r2,r3,r4,r5,r6,r7,pc+1⟩ s.xs A ⟨op,d,sn,ti,u,ar,k,to_⟩ late=rr
  obtain ⟨c',xs',wr',st'⟩:=rr
  intro HXX hac
  obtain ⟨a0,a1,a2,a3,a4,a5,a6,a7,ap⟩:=c'
  dsimp only at HXX hac
  rintro e w4 ⟨rfl,hm4,hacc⟩
  obtain ⟨cok2,hxl⟩:=hac
  have ng1:w.heap.size+1≠gk:=by have:=aZ H.out.cores;dsimp only at this;omega
  have q6:=aA.mk (hm4.bI s6.out (by rintro (e|e|e);exact aK s6.out HE1.out.mem.crow (by decide) e;omega;omega))
  have q7:=aA.mk hacc.c1
  have qY:=aA.mk hacc.o
  have HE:=aA.mk (HE1.out.accs hm4 (fun q hq=>by
   rcases hq with e|e|e
   ·exact .inl e
   ·exact .inr ⟨_,_,e▸s7.out,.inr ⟨rfl,e▸ng1⟩⟩
   ·exact .inr ⟨_,_,e▸sY.out,.inl rfl⟩) hacc.x hxl)
  have HM:=aA.mk (HM1.out.trans hm4 (fun q hq hs=>by rcases hs with e|e|e;exact .inl e;(exfalso;omega);(exfalso;omega)))
  have nb:=aA.mk HE.out.bI
  dsimp only at nb q7 qY
  clear s6 s7 sY HE1 HM1 hm4 hacc PC
  cases st' with
  |false=>
   have HXS:=aA.mk (HXX.out.trans (if_neg (fun hh=>by cases hh)))
   clear HXX
   have HMw:=HM
   have cok:=cok2
   simp only [Bool.false_eq_true, ↓reduceIte] at qY
   have E:=aA.mk (fun W (hE:jQ W ⟨be,bm,bc,gc,bp,gr,cap,mb,gk,B,some ⟨cg,0,none⟩,capl,vs,vb,rest⟩ p ⟨xs',s.rs,s.f,s.took,s.cs⟩)=>iA be gk capl bm bp (some ⟨cg,0,none⟩) p.l p.lo p.un s.cs t ⟨a0,a1,a2,a3,a4,a5,a6,a7,ap⟩ 0 (A:Int) 0 wr' false _ W hE.bI (Kd.dC hE.code).2.2 (Kd.dC hE.code).2.1 HO.out.good.l64 (fun i hi=>(HO.out.ins i hi).ok) hE.cores ht (by have:=HO.out.nc;have:=HO.out.good.n64;omega) cok rfl)
   obtain ⟨x0,x1,x2,x3,x4,x5,x6,x7,x8⟩:=oH q7.out
   obtain ⟨u0,u1,u2,u3,u4,u5⟩:=eM qY.out
   have ng:w.heap.size≠gk:=by have:=aZ H.out.cores;dsimp only at this;omega
   unfold dH at HXS
   revert E HXS
   generalize (go p.l t 256 ⟨a0,a1,a2,a3,a4,a5,a6,a7,ap⟩ [])=rr
   intro HXS E
   obtain ⟨c',ms,dd,er⟩:=rr
   go_wp2_with (go_at_call 128;refine (E.out _ HE.out).mono ?_;rintro e w4 ⟨v,rfl,hR,hm4,hg4⟩;have HV0:=aA.mk (Kd.cT hR HMw.out.size);have HM4:=aA.mk hm4;have HE4:=aA.mk (HE.out.core hm4 hg4 (by simp));have n8:=aA.mk (hm4.bI q6.out ng);clear hR hm4 hg4;obtain ⟨Av,cv,hv,_,_⟩:=Kd.bY HV0.out;subst hv;obtain ⟨y0,z0,y1,z1,y2,z2,y3,z3,y4,z4,y5,z5⟩:=fW n8.out)
   change bodyPost _ _ _ _ _ (iU w4 w.heap.size (.slice Av ms.length cv) (.int .i64 dd) (.int .i64 (A:Int)) (.bool wr') (.bool false) (.int .i64 er))
   have M8:=fR w4 w.heap.size (.slice Av ms.length cv) (.int .i64 dd) (.int .i64 (A:Int)) (.bool wr') (.bool false) (.int .i64 er)
   have p8:=eY n8.out (.slice Av ms.length cv) (.int .i64 dd) (.int .i64 (A:Int)) (.bool wr') (.bool false) (.int .i64 er)
   have HVF:=iT HV0.out M8 (fun q hq=>by rcases hq with rfl;exact ⟨_,_,n8.out,by decide⟩)
   have HEF:=HE4.out.nE n8.out M8
   have MF:=((HMw.out.trans HM4.out (fun q _ hs=> .inr (.inl hs))).trans M8 (fun q hq hs=>by exfalso;omega))
   generalize iU w4 w.heap.size (.slice Av ms.length cv) (.int .i64 dd) (.int .i64 (A:Int)) (.bool wr') (.bool false) (.int .i64 er)=WF at p8 HVF HEF MF ⊢
   obtain ⟨v0,v1,v2,v3,v4,v5⟩:=eM p8
   exact bodyPost_ret (v:= .agg #[.slice Av ms.length cv,.int .i64 dd,.int .i64 (A:Int),.bool wr',.bool false,.int .i64 er]) (by simp [results,Tryz.results65,go_sem, *]) rfl (by rw [HXS.out];exact ⟨_,rfl,HVF,MF,HEF⟩)
  |true=>
   have HXS:=aA.mk (HXX.out.trans (if_pos rfl))
   clear HXX
   simp only [↓reduceIte] at qY
   have ht2:=HT.out
   have i64:(s.cs.length:Int)≤64:=i2
   go_wp2_with fail
   refine dB (n:=8) (S:=fun w'=>w'.heap[be]?=some (.cells #[.slice (some ⟨cg,0,none⟩) p.l.length capl,.int .i64 p.lo,.int .i64 p.un,.pointer (some ⟨bm,0,none⟩),.pointer (some ⟨bp,0,none⟩),.slice (some ⟨gk,0,none⟩) s.cs.length s.cs.length] 149 (0,0))∧w'.heap[w.heap.size+1]?=some (.cells #[.int .u32 a0,.int .u32 a1,.int .u32 a2,.int .u32 a3,.int .u32 a4,.int .u32 a5,.int .u32 a6,.int .u32 a7,.int .i64 ap] 192 (0,0))) (ds:= [7]) #[false,false,false,false,false,false,false,false] (by kernel_rfl) rfl rfl ⟨nb.out,q7.out⟩ (fun hHeld=>?_)
   replace q6:=aA.mk (drew_ q6.out)
   replace q7:=aA.mk (drew_ q7.out)
   replace qY:=aA.mk (drew_ qY.out)
   replace nb:=aA.mk (drew_ nb.out)
   replace HE:=aA.mk (HE.out.below (bG (Below.refl _ _)))
   replace HM:=aA.mk (HM.out.drew)
   generalize w4.drew=w2 at q6 q7 qY nb HE HM hHeld ⊢
   refine pur_ 0 90 ?_
   refine pur_ 1 91 ?_
   refine pur_ 2 92 ?_
   refine pur_ 4 94 ?_
   refine tak_ 3 93 (.slice (some ⟨gk,0,none⟩) s.cs.length s.cs.length) ?_ hHeld ?_
   ·intro w' hS
    have c5:=(aC hS.1 5).trans rfl
    clear hHeld hS
    go_simp
   refine tak_ 5 95 (.agg #[.int .u32 a0,.int .u32 a1,.int .u32 a2,.int .u32 a3,.int .u32 a4,.int .u32 a5,.int .u32 a6,.int .u32 a7,.int .i64 ap]) ?_ hHeld ?_
   ·intro w' hS
    obtain ⟨g0,g1,g2,g3,g4,g5,g6,g7,g8⟩:=oH hS.2
    clear hHeld hS
    go_simp
   refine pur_ 6 96 ?_
   refine fX (i:=7) (N:=none) #[true,true,true,true,true,true,true,true] rfl rfl (by kernel_rfl) (by decide) (fun K hK=>?_)
   refine iH (w1:=oX w2 gk (t*9) (.int .u32 a0) (.int .u32 a1) (.int .u32 a2) (.int .u32 a3) (.int .u32 a4) (.int .u32 a5) (.int .u32 a6) (.int .u32 a7) (.int .i64 ap)) (by rfl) rfl ?_ ?_
   ·clear hK hHeld
    obtain ⟨⟨k0,k1,k2,k3,k4,k5,k6,k7,k8⟩,j0,j1,j2,j3,j4,j5,j6,j7,j8⟩:=kH HE.out.cores HT.out
    unfold oX
    go_simp
   have M9:=AK w2 gk (t*9) (.int .u32 a0) (.int .u32 a1) (.int .u32 a2) (.int .u32 a3) (.int .u32 a4) (.int .u32 a5) (.int .u32 a6) (.int .u32 a7) (.int .i64 ap)
   replace q6:=aA.mk (pG q6.out (by have:=aZ H.out.cores;dsimp only at this;omega:w.heap.size≠gk) (o:=t*9) (.int .u32 a0) (.int .u32 a1) (.int .u32 a2) (.int .u32 a3) (.int .u32 a4) (.int .u32 a5) (.int .u32 a6) (.int .u32 a7) (.int .i64 ap))
   replace qY:=aA.mk (pG qY.out (by have:=aZ H.out.cores;dsimp only at this;omega:Y≠gk) (o:=t*9) (.int .u32 a0) (.int .u32 a1) (.int .u32 a2) (.int .u32 a3) (.int .u32 a4) (.int .u32 a5) (.int .u32 a6) (.int .u32 a7) (.int .i64 ap))
   replace HE:=aA.mk (HE.out.core M9 (wD HE.out.cores HT.out ⟨a0,a1,a2,a3,a4,a5,a6,a7,ap⟩) (by simp))
   replace HM:=aA.mk (HM.out.trans M9 (fun q hq hs=> .inr (.inl hs)))
   clear q7 nb hHeld M9
   generalize oX w2 gk (t*9) (.int .u32 a0) (.int .u32 a1) (.int .u32 a2) (.int .u32 a3) (.int .u32 a4) (.int .u32 a5) (.int .u32 a6) (.int .u32 a7) (.int .i64 ap)=w3 at q6 qY HE HM ⊢
   refine hK.out _ _ ?_
   clear hK K
   refine eO (by kernel_rfl) ?_
   obtain ⟨y0,z0,y1,z1,y2,z2,y3,z3,y4,z4,y5,z5⟩:=fW q6.out
   obtain ⟨t0,t1,t2,t3,t4,t5⟩:=eM qY.out
   have n6Y:Y≠w.heap.size:=by omega
   go_wp2_with fail
   change bodyPost _ _ _ _ _ (iU w3 w.heap.size (.slice none 0 0) (.int .i64 (-1)) (.int .i64 (A:Int)) (.bool wr') (.bool true) (.int .i64 0))
   have M8:=fR w3 w.heap.size (.slice none 0 0) (.int .i64 (-1)) (.int .i64 (A:Int)) (.bool wr') (.bool true) (.int .i64 0)
   have p8:=eY q6.out (.slice none 0 0) (.int .i64 (-1)) (.int .i64 (A:Int)) (.bool wr') (.bool true) (.int .i64 0)
   have HEF:=HE.out.nE q6.out M8
   have MF:=HM.out.trans M8 (fun q hq hs=>by exfalso;omega)
   generalize iU w3 w.heap.size (.slice none 0 0) (.int .i64 (-1)) (.int .i64 (A:Int)) (.bool wr') (.bool true) (.int .i64 0)=WF at p8 HEF MF ⊢
   obtain ⟨v0,v1,v2,v3,v4,v5⟩:=eM p8
   exact bodyPost_ret (v:= .agg #[.slice none 0 0,.int .i64 (-1),.int .i64 (A:Int),.bool wr',.bool true,.int .i64 0]) (by simp [results,Tryz.results65,go_sem, *]) rfl (by rw [HXS.out];exact ⟨_,rfl,Kd.lA _ _ _ _ _,MF,HEF⟩)
theorem ZV {l:List dA} (hl:∀ i∈l,okI i) {self:Int} (f0:0≤self) (f1:self<64):∀ (n:Nat) (c:Cr) (ms:List Int),c.ok→(go l self n c ms).1.ok
 |0,c,ms,h=>by
  unfold go
  split
  ·split <;> exact h
  ·exact h
 |n+1,c,ms,h=>by
  unfold go
  split
  ·rename_i hp
   split
   ·exact h
   split
   ·exact h
   ·exact ZV hl f0 f1 n _ _ (C9 h (hl _ (iZ hp.1 hp.2)) f0 f1)
  ·exact h
def okM (i:dA):Prop:=(i.op=12→1≤i.k∧i.k≤4)∧(i.op=13→0≤i.k∧i.k≤3)
theorem go_marks {l:List dA} (hl:∀ i∈l,okM i) (self:Int):∀ (n:Nat) (c:Cr) (ms:List Int),(∀ k∈ms,1≤k∧k≤4)→(∀ k∈(go l self n c ms).2.1,1≤k∧k≤4)∧(go l self n c ms).2.1.length≤ms.length+n∧ -1≤(go l self n c ms).2.2.1∧(go l self n c ms).2.2.1≤3
 |0,c,ms,h=>by
  unfold go
  split
  ·split <;> exact ⟨h,by simp,(by decide:(-1:Int)≤ -1),(by decide:(-1:Int)≤3)⟩
  ·exact ⟨h,by simp,(by decide:(-1:Int)≤ -1),(by decide:(-1:Int)≤3)⟩
 |n+1,c,ms,h=>by
  unfold go
  split
  ·rename_i hp
   have hi:=hl _ (iZ hp.1 hp.2)
   split
   ·exact ⟨h,Nat.le_add_right _ _,(by decide:(-1:Int)≤ -1),(by decide:(-1:Int)≤3)⟩
   split
   ·rename_i hd
    have:=hi.2 hd
    exact ⟨h,Nat.le_add_right _ _,by dsimp only;omega,by dsimp only;omega⟩
   ·have key:=go_marks hl self n (step c (bJ l c.pc) self) (if (bJ l c.pc).op=12 then ms++ [(bJ l c.pc).k] else ms) (by
     split
     ·rename_i hm
      intro k hk
      rcases List.mem_append.1 hk with hk|hk
      ·exact h k hk
      ·rw [List.mem_singleton.1 hk];exact hi.1 hm
     ·exact h)
    refine ⟨key.1,Nat.le_trans key.2.1 ?_,key.2.2⟩
    split <;> simp <;> omega
  ·exact ⟨h,Nat.le_add_right _ _,(by decide:(-1:Int)≤ -1),(by decide:(-1:Int)≤3)⟩
theorem mem_set {α:Type} {l:List α} {i:Nat} {v:α} {P:α→Prop} (h:∀ x∈l,P x) (hv:P v):∀ x∈l.set i v,P x:=fun x hx=>by
 rcases List.mem_or_eq_of_mem_set hx with hx|rfl
 ·exact h x hx
 ·exact hv
theorem oF {α:Type} {l:List α} {z:α} {i:Nat} (h:i<l.length):l.getD i z∈l:=by
 rw [List.getD_eq_getElem?_getD,List.getElem?_eq_getElem h]
 exact List.getElem_mem h
theorem YE:Cr.zero.ok:=by unfold Cr.ok Cr.zero;simp
section
variable {p:dU} {s:XS}
theorem sP.core (h:sP p s) (t:Nat):(s.cs.getD t Cr.zero).ok:=by
 by_cases ht:t<s.cs.length
 ·exact h.cs _ (oF ht)
 ·rw [List.getD_eq_getElem?_getD,List.getElem?_eq_none (by omega)];exact YE
theorem sP.OO (h:sP p s) {c:Cr} (hc:c.ok) (t:Nat):sP p ⟨s.xs,s.rs,s.f,s.took,s.cs.set t c⟩:=
 ⟨h.good,h.ins,by rw [List.length_set];exact h.nc,h.nr,h.nx,mem_set h.cs hc,h.xs,h.hs,h.ring,h.who⟩
theorem sP.setX (h:sP p s) {xs:List Int} (hl:xs.length=s.xs.length) (hx:∀ x∈xs,0≤x∧x<4294967296):sP p ⟨xs,s.rs,s.f,s.took,s.cs⟩:=
 ⟨h.good,h.ins,h.nc,h.nr,hl.trans h.nx,h.cs,hx,h.hs,h.ring,h.who⟩
theorem sP.dH (h:sP p s) {t:Nat} (ht:t<64) {c:Cr} (hc:c.ok) (a:Int) (wr:Bool):sP p (dH p s t c a wr).2:=
 h.OO (ZV (fun i hi=>(h.ins i hi).ok) (by omega) (by omega) 256 c [] hc) t
theorem W5 {c:Cr} (hc:c.ok) {xs:List Int} (hx:∀ x∈xs,0≤x∧x<4294967296) (a:Nat) (i:dA) (late:Bool):(dS c xs a i late).1.ok∧(dS c xs a i late).2.1.length=xs.length∧∀ x∈(dS c xs a i late).2.1,0≤x∧x<4294967296:=by
 have hv:=pI hx a
 have tX:=fun (d:Int)=>Cr.lC hc d _ hv.1 hv.2
 have st:∀ v,(0≤v∧v<4294967296)→(xs.set a v).length=xs.length∧∀ x∈xs.set a v,0≤x∧x<4294967296:=fun v hv=>⟨by simp,mem_set hx hv⟩
 unfold dS
 split
 ·exact ⟨tX _,rfl,hx⟩
 split
 ·exact ⟨hc,st _ (Cr.mO hc _)⟩
 split
 ·exact ⟨tX _,st _ (Cr.mO hc _)⟩
 split
 ·split
  ·exact ⟨Cr.lC hc _ _ (by decide) (by decide),st _ (Cr.mO hc _)⟩
  ·exact ⟨Cr.lC hc _ _ (by decide) (by decide),rfl,hx⟩
 split
 ·exact ⟨tX _,st _ (by omega)⟩
 split
 ·exact ⟨tX _,rfl,hx⟩
 split
 ·exact ⟨Cr.gU (tX _) _,rfl,hx⟩
 ·exact ⟨Cr.gU (tX _) _,rfl,hx⟩
theorem sP.step (h:sP p s) {t:Nat} (ht:t<s.cs.length) (late:Bool):sP p (bR p s t late).2:=by
 have hc:=h.core t
 have h64:t<64:=by have:=h.nc;have:=h.good.n64;omega
 have hr:t<s.rs.length:=by have:=h.nc;have:=h.nr;omega
 unfold bR
 dsimp only
 split
 ·exact h
 split
 ·exact h
 split
 ·have hrm:=oF (z:=nP) hr
  split
  ·exact h.dH h64 (Cr.lC (Cr.gU hc _) _ _ (by decide) (by decide)) _ _
  ·rename_i hn
   have hv:=pI (h.hs _ hrm) (s.rs.getD t nP).first
   have hg:=h.ring _ hrm
   refine sP.dH (s:=⟨s.xs,s.rs.set t (lB p.m (s.rs.getD t nP)),_,s.took+1,s.cs⟩) ⟨h.good,h.ins,h.nc,by rw [List.length_set];exact h.nr,h.nx,h.cs,h.xs,mem_set h.hs (mem_set (h.hs _ hrm) (by decide)),mem_set h.ring ⟨by unfold lB;dsimp only;omega,fun hm=>Nat.mod_lt _ hm,by unfold lB;dsimp only;rw [List.length_set];exact hg.2.2⟩,fun q=>?_⟩ h64 (Cr.lC (Cr.gU hc _) _ _ hv.1 hv.2) _ _
   rw [List.length_set]
   dsimp only [jT]
   split
   ·omega
   ·exact h.who q
 split
 ·split
  ·exact h.dH h64 (Cr.gU hc _) _ _
  split
  ·exact h
  ·rename_i hf
   generalize hh:((s.cs.getD t Cr.zero).goto ((s.cs.getD t Cr.zero).pc+1)).get (bJ p.l (s.cs.getD t Cr.zero).pc).s=g at hf ⊢
   have hw:=h.who g
   have hu:(s.f g - 1).toNat<s.rs.length:=by omega
   have hum:=oF (z:=nP) hu
   have hg:=h.ring _ hum
   have hN:=xQ g.toNat
   refine sP.dH (s:=⟨s.xs,s.rs.set (s.f g - 1).toNat (oB p.m (s.rs.getD (s.f g - 1).toNat nP) (eR g.toNat)),_,s.took,s.cs⟩) ⟨h.good,h.ins,h.nc,by rw [List.length_set];exact h.nr,h.nx,h.cs,h.xs,mem_set h.hs ?_,mem_set h.ring ?_,fun q=>?_⟩ h64 (Cr.gU hc _) _ _
   ·unfold oB
    split
    ·exact mem_set (h.hs _ hum) (by omega)
    ·exact h.hs _ hum
   ·unfold oB
    split
    ·exact ⟨by dsimp only;omega,fun hm=>hg.2.1 hm,by dsimp only;rw [List.length_set];exact hg.2.2⟩
    ·exact hg
   ·rw [List.length_set]
    dsimp only [jT]
    split
    ·omega
    ·exact h.who q
 split
 ·exact h
 ·have ha:=W5 (Cr.gU hc ((s.cs.getD t Cr.zero).pc+1)) h.xs (rd (dM p.szs p.szs.length) (bJ p.l (s.cs.getD t Cr.zero).pc).a+hIdx (((s.cs.getD t Cr.zero).goto ((s.cs.getD t Cr.zero).pc+1)).get (bJ p.l (s.cs.getD t Cr.zero).pc).s).toNat).toNat (bJ p.l (s.cs.getD t Cr.zero).pc) late
  have hX:=h.setX ha.2.1 ha.2.2
  split
  ·exact hX.OO ha.1 t
  ·exact hX.dH h64 ha.1 _ _
theorem JG (late:Bool) (t:Nat):(bR p s t late).2.took≤s.took+1:=by
 unfold bR
 dsimp only
 repeat' split
 all_goals (first|exact Nat.le_refl _|exact Nat.le_succ _)
theorem sV (hm:∀ i∈p.l,okM i) (late:Bool) (t:Nat):(∀ k∈(bR p s t late).1.marks,1≤k∧k≤4)∧(bR p s t late).1.marks.length≤256∧ -1≤(bR p s t late).1.dn∧(bR p s t late).1.dn≤3:=by
 have key:∀ (s:XS) (c:Cr) (a:Int) (wr:Bool),(∀ k∈(dH p s t c a wr).1.marks,1≤k∧k≤4)∧(dH p s t c a wr).1.marks.length≤256∧ -1≤(dH p s t c a wr).1.dn∧(dH p s t c a wr).1.dn≤3:=fun s c a wr=>by
  have:=go_marks hm t 256 c [] (by simp)
  exact ⟨this.1,Nat.le_trans this.2.1 (by decide),this.2.2⟩
 have none_:∀ (o:XO),o.marks= []→o.dn= -1→(∀ k∈o.marks,1≤k∧k≤4)∧o.marks.length≤256∧ -1≤o.dn∧o.dn≤3:=fun o e1 e2=>by rw [e1,e2];simp
 unfold bR
 dsimp only
 repeat' split
 all_goals (first|exact key _ _ _ _|exact none_ _ rfl rfl)
end
def QY (l:List dA) (r:List Nat) (q:Nat):Bool:=match l[q]? with
 |none=>false
 |some i=>
  let ok:=fun (x:Int)=>decide (0≤x)&&decide (x<l.length)&&(decide (16≤(bJ l x).op) || decide (16≤i.op) || Nat.blt (r.getD x.toNat 0) (r.getD q 0))
  if i.op=13 then true
  else if i.op=10 then ok i.to_
  else if i.op=8∨i.op=9 then ok i.to_&&ok ((q:Int)+1)
  else if i.op=21 then ok ((q:Int)+1)&&(decide (i.to_<0) || ok i.to_)
  else ok ((q:Int)+1)
def nK (l:List dA) (r:List Nat):Bool:=(List.range l.length).all (QY l r)&&r.all (fun n=>Nat.blt n 200)
def jI (l:List dA) (pc:Int):Prop:=(0≤pc∧pc<l.length)∧16≤(bJ l pc).op
theorem J5 {l:List dA} {r:List Nat} (h:nK l r=true) (self:Int):∀ (n:Nat) (c:Cr) (ms:List Int),0≤c.pc∧c.pc<l.length→(16≤(bJ l c.pc).op∨r.getD c.pc.toNat 0<n)→(go l self n c ms).2.2.2=0∧((go l self n c ms).2.2.1= -1→jI l (go l self n c ms).1.pc∨∃ i∈l,i.op=13∧i.k= -1)
 |0,c,ms,hp,hr=>by
  have hm:16≤(bJ l c.pc).op:=by omega
  rw [JQ l self 0 c ms hp hm]
  exact ⟨rfl,fun _=> .inl ⟨hp,hm⟩⟩
 |n+1,c,ms,hp,hr=>by
  by_cases hm:16≤(bJ l c.pc).op
  ·rw [JQ l self (n+1) c ms hp hm]
   exact ⟨rfl,fun _=> .inl ⟨hp,hm⟩⟩
  have hr:=hr.resolve_left hm
  by_cases hd:(bJ l c.pc).op=13
  ·rw [K1 l self n c ms hp hd]
   exact ⟨rfl,fun hk=> .inr ⟨_,iZ hp.1 hp.2,hd,hk⟩⟩
  have hq:c.pc.toNat<l.length:=by omega
  have hs:=List.all_eq_true.1 (Bool.and_eq_true_iff.1 h).1 _ (List.mem_range.2 hq)
  have hi:l[c.pc.toNat]?=some (bJ l c.pc):=by
   unfold bJ
   rw [List.getD_eq_getElem?_getD,List.getElem?_eq_getElem hq]
   rfl
  have hcq:((c.pc.toNat:Nat):Int)=c.pc:=by omega
  have key:(0≤(step c (bJ l c.pc) self).pc∧(step c (bJ l c.pc) self).pc<l.length)∧(16≤(bJ l (step c (bJ l c.pc) self).pc).op∨r.getD (step c (bJ l c.pc) self).pc.toNat 0<r.getD c.pc.toNat 0):=by
   unfold QY at hs
   rw [hi] at hs
   dsimp only at hs
   rw [hcq] at hs
   have fin:∀ x:Int,(decide (0≤x)&&decide (x<l.length)&&(decide (16≤(bJ l x).op) || decide (16≤(bJ l c.pc).op) || Nat.blt (r.getD x.toNat 0) (r.getD c.pc.toNat 0)))=true→(0≤x∧x<l.length)∧(16≤(bJ l x).op∨r.getD x.toNat 0<r.getD c.pc.toNat 0):=fun x hx=>by
    simp only [Bool.and_eq_true,Bool.or_eq_true,decide_eq_true_eq,Nat.blt_eq] at hx
    exact ⟨hx.1,by rcases hx.2 with (h|h)|h;exact .inl h;exact absurd h hm;exact .inr h⟩
   have nx:(step c (bJ l c.pc) self).pc=c.pc+1∧(bJ l c.pc).op≠10∨(step c (bJ l c.pc) self).pc=(bJ l c.pc).to_∧((bJ l c.pc).op=10∨(bJ l c.pc).op=8∨(bJ l c.pc).op=9):=by
    unfold step
    rw [if_neg (by omega)]
    split
    ·rename_i v hv
     refine .inl ⟨rfl,fun e=>?_⟩
     unfold writes at hv
     simp [e] at hv
    ·show (next c (bJ l c.pc)=_∧_)∨_
     unfold next
     split
     ·rename_i hh
      exact .inr ⟨rfl,by omega⟩
     ·rename_i hh
      exact .inl ⟨rfl,by omega⟩
   rw [if_neg hd] at hs
   rcases nx with ⟨e,hne⟩|⟨e,ho⟩
   ·rw [e]
    refine fin _ ?_
    rw [if_neg hne] at hs
    split at hs
    ·exact (Bool.and_eq_true_iff.1 hs).2
    split at hs
    ·exact (Bool.and_eq_true_iff.1 hs).1
    ·exact hs
   ·rw [e]
    refine fin _ ?_
    by_cases h10:(bJ l c.pc).op=10
    ·rw [if_pos h10] at hs;exact hs
    ·rw [if_neg h10,if_pos (by omega)] at hs
     exact (Bool.and_eq_true_iff.1 hs).1
  by_cases hk:(bJ l c.pc).op=12
  ·rw [LA l self n c ms hp hk]
   exact J5 h self n _ _ key.1 (key.2.imp_right (fun hh=>by omega))
  ·rw [Z0 l self n c ms hp hm hd hk]
   exact J5 h self n _ _ key.1 (key.2.imp_right (fun hh=>by omega))
end Go.Proofs.YtjopodnlffaogaaGreatDoor.Tp
end
