/- A part of the proof of TopSame: TpStart. -/
import Derived.Test.YtjopodnlffaogaaGreatDoorSL7
import Derived.Test.YtjopodnlffaogaaGreatDoorRows
import Derived.Shelf.Vars
import Derived.Stop.LaidErr
set_option linter.unusedVariables false
set_option linter.unusedSimpArgs false
set_option maxRecDepth 100000
set_option maxHeartbeats 4000000
section
namespace Go.Proofs.YtjopodnlffaogaaGreatDoor.Tp
open Go.RowKit Go.Proofs.YtjopodnlffaogaaGreatDoorW.PrintWords Go.Proofs.YtjopodnlffaogaaGreatDoorW.PrintLast Go.Proofs.YtjopodnlffaogaaGreatDoorW.PrintMore
attribute [local go_sem] aU aQ aY aX aI aJ aT aN
theorem oW {H:Type} {enc:TypeId × Value→H} {P:Program} {w:World} {base:Nat} {spare:Nat→Bool} {held:Bool} {fuel n:Nat} {t e:TypeId} {cs:List Value} {ds:List (DataW H)} {p:List MemPlace} {g:DataW H→Value}
  (ht:P.underlying t=some (.array n e)) (hc:P.cellsOf e=1) (hct:P.cellsOf t=n) (h:DataW.trod enc P w base spare held fuel t cs=some (.agg ds,p))
  (hel:∀ m z y,DataW.trod enc P w base spare held m e [z]=some y→g y.1=z):cs=ds.map g:=by
 obtain ⟨xs,m,_,ex,hlen,hl,hx⟩:=DataW.trod_array ht h
 have e1:ds=xs.map (·.1):=DataW.agg.inj (Prod.mk.inj ex).1
 subst e1
 rw [hct] at hlen
 refine List.ext_getElem (by simp;omega) fun i h1 h2=>?_
 have h3:=hx i (by omega)
 have h4:(cs.drop (i*P.cellsOf e)).take (P.cellsOf e)= [cs[i]]:=by
  rw [hc,Nat.mul_one,List.drop_eq_getElem_cons h1];rfl
 rw [h4,List.getElem?_eq_getElem (by omega)] at h3
 have:=hel _ _ _ h3
 simp [this]
theorem rO {P:Program} {w:World} {n:String} {d:DataW Unit} :∀ {l:List (String × DataW Unit)} {ps:List MemPlace},DataW.LaidVars P w l ps→(n,d)∈l→
  ∃ g t cs fuel p,P.globalNamed n=some g∧(P.globals[g]?).map (·.type)=some t∧w.var? P n=some cs∧DataW.trod (fun _=>()) P w 0 (fun _=>true) false fuel t cs.toList=some (d,p)
 | [],_,_,h=>by cases h
 |(n',d') :: r,ps,hl,h=>by
  obtain ⟨g,t,cs,fuel,p,q,h1,h2,h3,h4,h5,_⟩:=hl
  rcases List.mem_cons.1 h with e|h
  ·cases e
   exact ⟨g,t,cs,fuel,p,h1,h2,h3,h4⟩
  ·exact rO h5 h
theorem mF {P:Program} {w:World} {n:String} {d:DataW Unit} {g:Nat} {t:TypeId} {e:TypeId} {l:List (String × DataW Unit)} {ps:List MemPlace} (hs:w.ShapedOpen P) (hl:DataW.LaidVars P w l ps) (hm:(n,d)∈l)
  (hg:P.globalNamed n=some g) (ht:(P.globals[g]?).map (·.type)=some t) (hlt:g<P.globals.size) (h0:(((begin P (fun _ _=>0) default).world.heap[g]?).bind Obj.row?).map (·.2)=some e):
  ∃ cs fuel p,w.heap[g]?=some (.cells cs e)∧DataW.trod (fun _=>()) P w 0 (fun _=>true) false fuel t cs.toList=some (d,p):=by
 obtain ⟨g',t',cs,fuel,p,h1,h2,h3,h4⟩:=rO hl hm
 obtain rfl:=Option.some.inj (hg.symm.trans h1)
 obtain rfl:=Option.some.inj (ht.symm.trans h2)
 obtain ⟨⟨zero,e'⟩,h0',rfl⟩:=Option.map_eq_some_iff.1 h0
 obtain ⟨C,hC,_⟩:=hs.1 _ zero e' hlt h0'
 have:C=cs:=by
  unfold World.var? at h3
  rw [h1,Option.bind_some,hC] at h3
  exact Option.some.inj h3
 subst this
 exact ⟨C,fuel,p,hC,h4⟩
def leaf:DataW Unit→Value
 | .lit (.int k n)=> .int k n
 | .lit (.string l)=> .string ⟨⟨l⟩⟩
 |_=>undef
theorem xV {P:Program} {w:World} {m:Nat} {e:TypeId} {k:IntKind} (he:P.underlying e=some (.int k)) {z:Value} {y:DataW Unit × List MemPlace} (h:DataW.trod (fun _=>()) P w 0 (fun _=>true) false m e [z]=some y):leaf y.1=z:=by
 obtain ⟨n,h1,rfl,_⟩:=DataW.trod_int he h
 cases h1
 rfl
theorem tH {P:Program} {w:World} {m:Nat} {e:TypeId} (he:P.underlying e=some .string) {z:Value} {y:DataW Unit × List MemPlace} (h:DataW.trod (fun _=>()) P w 0 (fun _=>true) false m e [z]=some y):leaf y.1=z:=by
 obtain ⟨s,h1,rfl,_⟩:=DataW.trod_string he h
 cases h1
 rfl
theorem A7 {W:World} (hs:W.ShapedOpen Tryz.prog) {ps:List MemPlace} (hl:DataW.LaidVars Tryz.prog W Rows.topConfigRow.laid ps):∃ C ds,Rows.laid_ropeline_machine_marks=DataW.agg ds∧W.heap[0]?=some (.cells C 224)∧C.toList=ds.map leaf:=by
 obtain ⟨C,fuel,p,h1,h2⟩:=mF (n:= "ropeline/machine.marks") (d:=Rows.laid_ropeline_machine_marks) (g:=0) (t:=224) (e:=224) hs hl (by simp [Rows.topConfigRow]) (by kernel_rfl) (by kernel_rfl) (of_decide_eq_true (by kernel_rfl)) (by kernel_rfl)
 exact ⟨C,_,rfl,h1,oW (e:=3) (n:=5) (by kernel_rfl) (by kernel_rfl) (by kernel_rfl) h2 (fun m z y h=>xV (k:= .i64) (by kernel_rfl) h)⟩
theorem O9 {W:World} (hs:W.ShapedOpen Tryz.prog) {ps:List MemPlace} (hl:DataW.LaidVars Tryz.prog W Rows.topConfigRow.laid ps):∃ C ds,Rows.laid_ropeline_qlock_words=DataW.agg ds∧W.heap[2]?=some (.cells C 232)∧C.toList=ds.map leaf:=by
 obtain ⟨C,fuel,p,h1,h2⟩:=mF (n:= "ropeline/qlock.words") (d:=Rows.laid_ropeline_qlock_words) (g:=2) (t:=232) (e:=232) hs hl (by simp [Rows.topConfigRow]) (by kernel_rfl) (by kernel_rfl) (of_decide_eq_true (by kernel_rfl)) (by kernel_rfl)
 exact ⟨C,_,rfl,h1,oW (e:=9) (n:=9) (by kernel_rfl) (by kernel_rfl) (by kernel_rfl) h2 (fun m z y h=>tH (by kernel_rfl) h)⟩
theorem OQ {W:World} (hs:W.ShapedOpen Tryz.prog) {ps:List MemPlace} (hl:DataW.LaidVars Tryz.prog W Rows.topConfigRow.laid ps):∃ C ds,Rows.laid_ropeline_trace_words=DataW.agg ds∧W.heap[4]?=some (.cells C 290)∧C.toList=ds.map leaf:=by
 obtain ⟨C,fuel,p,h1,h2⟩:=mF (n:= "ropeline/trace.words") (d:=Rows.laid_ropeline_trace_words) (g:=4) (t:=290) (e:=290) hs hl (by simp [Rows.topConfigRow]) (by kernel_rfl) (by kernel_rfl) (of_decide_eq_true (by kernel_rfl)) (by kernel_rfl)
 exact ⟨C,_,rfl,h1,oW (e:=9) (n:=11) (by kernel_rfl) (by kernel_rfl) (by kernel_rfl) h2 (fun m z y h=>tH (by kernel_rfl) h)⟩
theorem SG {W:World} (hs:W.ShapedOpen Tryz.prog) {ps:List MemPlace} (hl:DataW.LaidVars Tryz.prog W Rows.topConfigRow.laid ps):∃ C ds,Rows.laid_internal_strconv_uint64pow10=DataW.agg ds∧W.heap[5]?=some (.cells C 367)∧C.toList=ds.map leaf:=by
 obtain ⟨C,fuel,p,h1,h2⟩:=mF (n:= "internal/strconv.uint64pow10") (d:=Rows.laid_internal_strconv_uint64pow10) (g:=5) (t:=367) (e:=367) hs hl (by simp [Rows.topConfigRow]) (by kernel_rfl) (by kernel_rfl) (of_decide_eq_true (by kernel_rfl)) (by kernel_rfl)
 exact ⟨C,_,rfl,h1,oW (e:=352) (n:=20) (by kernel_rfl) (by kernel_rfl) (by kernel_rfl) h2 (fun m z y h=>xV (k:= .u64) (by kernel_rfl) h)⟩
theorem J7 {P:Program} {w:World} {g:Nat} {t:TypeId} {k:IntKind} (h:w.ShapedOpen P) (hg:g<P.globals.size) {z:Value}
  (h0:((begin P (fun _ _=>0) default).world.heap[g]?).bind Obj.row?=some (#[z],t)) (hb:P.buildable t=true) (hc:P.cellTypes P.depth t=some [t]) (hu:P.underlying t=some (.int k)):∃ m,w.cell? ⟨g,0,none⟩=some (.int k m):=
 cell_of_shapedOpen_int h hg h0 rfl hb hc hu
def leaves:DataW Unit→List Value
 | .agg l=>l.map leaf
 |_=> []
def YJ:DataW Unit→List Value
 | .agg l=>l.flatMap leaves
 |_=> []
theorem TZ {α:Type} (l:List α) (h:l.length=8):l=(l.drop 0).take 2++((l.drop 2).take 2++((l.drop 4).take 2++((l.drop 6).take 2++ []))):=by
 match l,h with
 | [a,b,c,d,e,f,g,i],_=>rfl
theorem list4 {α:Type} (l:List α) (h:l.length=4):∃ a b c d,l= [a,b,c,d]:=by
 match l,h with
 | [a,b,c,d],_=>exact ⟨a,b,c,d,rfl⟩
theorem EG {W:World} (hs:W.ShapedOpen Tryz.prog) {ps:List MemPlace} (hl:DataW.LaidVars Tryz.prog W Rows.topConfigRow.laid ps):∃ C,W.heap[1]?=some (.cells C 226)∧C.toList=YJ Rows.laid_ropeline_machine_ends:=by
 obtain ⟨C,fuel,p,h1,h2⟩:=mF (n:= "ropeline/machine.ends") (d:=Rows.laid_ropeline_machine_ends) (g:=1) (t:=226) (e:=226) hs hl (by simp [Rows.topConfigRow]) (by kernel_rfl) (by kernel_rfl) (of_decide_eq_true (by kernel_rfl)) (by kernel_rfl)
 refine ⟨C,h1,?_⟩
 obtain ⟨xs,m,_,ex,hlen,hn,hx⟩:=DataW.trod_array (n:=4) (e:=225) (by kernel_rfl) h2
 have e1:Rows.laid_ropeline_machine_ends=DataW.agg (xs.map (·.1)):=(Prod.mk.inj ex).1
 rw [show Tryz.prog.cellsOf 226=8 by kernel_rfl] at hlen
 rw [show Tryz.prog.cellsOf 225=2 by kernel_rfl] at hx
 obtain ⟨x0,x1,x2,x3,rfl⟩:=list4 xs hn
 have hin:∀ (i:Nat) (x:DataW Unit × List MemPlace),DataW.trod (fun _=>()) Tryz.prog W 0 (fun _=>true) false m 225 ((C.toList.drop (i*2)).take 2)=some x→(C.toList.drop (i*2)).take 2=leaves x.1:=fun i x h=>by
  obtain ⟨ys,m',_,ey,_⟩:=DataW.trod_array (n:=2) (e:=3) (by kernel_rfl) h
  have hd:x=(.agg (ys.map (·.1)),x.2):=by rw [ey]
  rw [hd] at h ⊢
  exact oW (e:=3) (n:=2) (g:=leaf) (by kernel_rfl) (by kernel_rfl) (by kernel_rfl) h (fun m z y h=>xV (k:= .i64) (by kernel_rfl) h)
 have g0:=hin 0 x0 (hx 0 (by decide))
 have g1:=hin 1 x1 (hx 1 (by decide))
 have g2:=hin 2 x2 (hx 2 (by decide))
 have g3:=hin 3 x3 (hx 3 (by decide))
 rw [e1,TZ C.toList hlen]
 simp only [Nat.zero_mul,Nat.one_mul,Nat.reduceMul] at g0 g1 g2 g3
 rw [g0,g1,g2,g3]
 rfl
theorem ZT: "*" ++ "errors.errorString" = "*errors.errorString" :=by decide
theorem row39 (u:TypeId) (h:Tryz.prog.typeName? 3 u=some "*errors.errorString"):u=384:=
 typeName_ptr_named (nm:= "errors.errorString") (by rw [ZT];kernel_rfl) (by kernel_rfl) (by decide) u (by rw [ZT];exact h)
theorem JD {W:World} (hs:W.ShapedOpen Tryz.prog) (hm:laidMet Tryz.prog Rows.topConfigRow.laid W):∃ a,W.heap[8]?=some (.cells #[.iface 384 (.pointer (some a))] 104):=by
 obtain ⟨ps,hl,_,_⟩:=id hm
 obtain ⟨C,fuel,p,h1,h2⟩:=mF (n:= "strconv.ErrSyntax") (d:=Rows.laid_strconv_ErrSyntax) (g:=8) (t:=104) (e:=104) hs hl (by simp [Rows.topConfigRow]) (by kernel_rfl) (by kernel_rfl) (of_decide_eq_true (by kernel_rfl)) (by kernel_rfl)
 obtain ⟨a,s,hv,_⟩:=laid_sentinel (g:=8) (ti:=104) (tp:=384) (te:=386) (ts:=9) (f:= { name:= "s",type:=9,offset:=0,embedded:=false,tag:= "",pkgPath:= "errors",byteOffset:=0 }) hm.tail.tail.tail.tail.tail (by kernel_rfl) (by kernel_rfl) Tryz.underlying104 row39 (by kernel_rfl) (by kernel_rfl) rfl rfl Tryz.underlying9 (by kernel_rfl) (by kernel_rfl)
 refine ⟨a,?_⟩
 unfold World.var? at hv
 rw [show Tryz.prog.globalNamed "strconv.ErrSyntax" =some 8 by kernel_rfl,Option.bind_some,h1] at hv
 rw [h1]
 exact congrArg (fun c=>some (Obj.cells c 104 (0,0))) (Option.some.inj hv)
theorem FQ {vs:Abs.iR} (hok:Abs.jW vs=true) {W:World} (h:∀ b cs e,(b,cs,e)∈vs→∃ C fr,W.heap[b]?=some (.cells C e fr)∧Abs.LR ⟨fun b=>if b<12 then some b else none,fun _=>0⟩ cs C.toList):
  Abs.Rel Tryz.prog ⟨fun b=>if b<12 then some b else none,fun _=>0⟩ (Abs.jU vs) W:=by
 refine ⟨fun b o hb=>?_,fun b b' c hb hb' hc hc'=>?_⟩
 ·obtain ⟨cs,e,rfl,hm,_,hlt⟩:=Abs.kA hok hb
  obtain ⟨C,fr,h1,h2⟩:=h _ _ _ hm
  exact ⟨b,if_pos hlt,C,fr,h1,⟨C.toList,[],by simp,h2⟩,fun h=>absurd rfl h,(fun h=>by cases h),fun h=>by cases h⟩
 ·have g:∀ k c,(if k<12 then some k else none:Option Nat)=some c→c=k:=fun k c h=>by
   split at h
   ·exact (Option.some.inj h).symm
   ·cases h
  exact (g b c hc).symm.trans (g b' c hc')
theorem P9 {W:World} (hs:W.ShapedOpen Tryz.prog) (hm:laidMet Tryz.prog Rows.topConfigRow.laid W):Start W:=by
 obtain ⟨ps,hl,_,_⟩:=id hm
 obtain ⟨C0,ds0,d0,r0,e0⟩:=A7 hs hl
 obtain ⟨C1,r1,e1⟩:=EG hs hl
 obtain ⟨C2,ds2,d2,r2,e2⟩:=O9 hs hl
 obtain ⟨C4,ds4,d4,r4,e4⟩:=OQ hs hl
 obtain ⟨C5,ds5,d5,r5,e5⟩:=SG hs hl
 obtain ⟨a,r8⟩:=JD hs hm
 have f0:ds0.map leaf=leaves Rows.laid_ropeline_machine_marks:=by rw [d0];rfl
 have f2:ds2.map leaf=leaves Rows.laid_ropeline_qlock_words:=by rw [d2];rfl
 have f4:ds4.map leaf=leaves Rows.laid_ropeline_trace_words:=by rw [d4];rfl
 have f5:ds5.map leaf=leaves Rows.laid_internal_strconv_uint64pow10:=by rw [d5];rfl
 rw [f0] at e0
 rw [f2] at e2
 rw [f4] at e4
 rw [f5] at e5
 have G:Abs.GL 12 ⟨fun b=>if b<12 then some b else none,fun _=>0⟩:=fun g hg=>if_pos hg
 have fl:∀ {l:List Value} {C:Array Value},C.toList=l→Abs.fC l=true→Abs.LR ⟨fun b=>if b<12 then some b else none,fun _=>0⟩ l C.toList:=fun h1 h2=>by rw [h1];exact Abs.LR.flat h2
 have k5:∃ C fr,W.heap[5]?=some (.cells C 367 fr)∧Abs.LR ⟨fun b=>if b<12 then some b else none,fun _=>0⟩ Abs.pows C.toList:=⟨C5,_,r5,fl (e5.trans (by kernel_rfl)) (by kernel_rfl)⟩
 have k8:∃ C fr,W.heap[8]?=some (.cells C 104 fr)∧Abs.LR ⟨fun b=>if b<12 then some b else none,fun _=>0⟩ [.iface 384 (.pointer (some ⟨12,0,some 0⟩))] C.toList:=⟨_,_,r8,.cons (.iface .fU) .nil⟩
 refine ⟨⟨⟨⟨fun b=>if b<12 then some b else none,fun _=>0⟩,FQ Abs.cY (fun b cs e hmem=>?_),fun b hb=>if_neg (by omega),G⟩,J7 hs (of_decide_eq_true (by kernel_rfl)) (z:= .int .i64 0) (t:=3) (by kernel_rfl) (by kernel_rfl) (by kernel_rfl) Tryz.underlying3⟩,⟨fun b=>if b<12 then some b else none,fun _=>0⟩,FQ Abs.Q6 (fun b cs e hmem=>?_),G⟩
 ·simp only [Abs.V1,List.mem_cons,List.mem_nil_iff,or_false,Prod.mk.injEq] at hmem
  rcases hmem with ⟨rfl,rfl,rfl⟩|⟨rfl,rfl,rfl⟩
  ·exact k5
  ·exact k8
 ·simp only [Abs.V2,List.mem_cons,List.mem_nil_iff,or_false,Prod.mk.injEq] at hmem
  rcases hmem with ⟨rfl,rfl,rfl⟩|⟨rfl,rfl,rfl⟩|⟨rfl,rfl,rfl⟩|⟨rfl,rfl,rfl⟩|⟨rfl,rfl,rfl⟩|⟨rfl,rfl,rfl⟩
  ·exact ⟨C0,_,r0,fl (e0.trans (by kernel_rfl)) (by kernel_rfl)⟩
  ·exact ⟨C1,_,r1,fl (e1.trans (by kernel_rfl)) (by kernel_rfl)⟩
  ·exact ⟨C2,_,r2,fl (e2.trans (by kernel_rfl)) (by kernel_rfl)⟩
  ·exact ⟨C4,_,r4,fl (e4.trans (by kernel_rfl)) (by kernel_rfl)⟩
  ·exact k5
  ·exact k8
end Go.Proofs.YtjopodnlffaogaaGreatDoor.Tp
end
