/- A part of the proof of TopSame: TpAbs11, TpAbs12, TpAbs13, TpAbs14, TpAbs15. -/
import Derived.Test.YtjopodnlffaogaaGreatDoorSA0
import Derived.Lib.UnsafeStr
import Derived.Laws.Externs
import Derived.KernelRfl
import Derived.Tactics
set_option linter.unusedVariables false
set_option linter.unusedSimpArgs false
set_option maxRecDepth 100000
set_option maxHeartbeats 4000000
section
namespace Go.Proofs.YtjopodnlffaogaaGreatDoor.Abs
theorem DM {b:BinOp} {k:IntKind} {x y:Int} {v:Value} (h:rC b k x y=some v):flat v=true:=by
 cases b <;> simp [rC] at h <;> subst h <;> rfl
theorem FN {P:Program} {b:BinOp} {k:IntKind} {x y:Int} {v:Value} (h:rC b k x y=some v) (ty:TypeId) (w:World):(binOp b ty (.int k x) (.int k y)).run P w= .ok v w:=by
 cases b <;> simp [rC] at h <;> subst h <;> simp [binOp,Op.intArith,Op.intCmp]
theorem rZ {P:Program} (b:BinOp) (ty:TypeId) (x y:Operand) (u v:Value) (w:World) (h1:¬ (u= .nilIface∧v= .nilIface)) (h2:∀ f g,¬ (u= .agg f∧v= .agg g)):(eqGuard b ty x y u v).run P w= .ok () w:=by
 cases b <;> simp [eqGuard] <;> (cases u <;> cases v <;> first|rfl|(exfalso;exact h1 ⟨rfl,rfl⟩)|(exfalso;exact h2 _ _ ⟨rfl,rfl⟩))
theorem Y1 {P:Program} {t e:TypeId} (hd:P.underlying t=some (.pointer e)) (w:World) (d:Nat) (p:Addr):(Op.equalIn (d+1) t (.pointer (some p)) (.pointer none)).run P w= .ok false w:=by simp [Op.equalIn,bH hd]
theorem XG {P:Program} {t e:TypeId} (hd:P.underlying t=some (.pointer e)) (w:World) (d:Nat) (p:Addr):(Op.equalIn (d+1) t (.pointer none) (.pointer (some p))).run P w= .ok false w:=by simp [Op.equalIn,bH hd]
theorem eq_sl1 {P:Program} {t e:TypeId} (hd:P.underlying t=some (.slice e)) (w:World) (d:Nat) (p:Addr) (n k m l:Nat):(Op.equalIn (d+1) t (.slice (some p) n k) (.slice none m l)).run P w= .ok false w:=by simp [Op.equalIn,bH hd]
theorem eq_sl2 {P:Program} {t e:TypeId} (hd:P.underlying t=some (.slice e)) (w:World) (d:Nat) (p:Addr) (n k m l:Nat):(Op.equalIn (d+1) t (.slice none m l) (.slice (some p) n k)).run P w= .ok false w:=by simp [Op.equalIn,bH hd]
theorem VK {P:Program} {t:TypeId} {x y cx cy:Value} {ρ:Rn} (hx:VR ρ x cx) (hy:VR ρ y cy) {r:Bool} (h:WW P t x y=some r) (w:World):
  (Op.equal t cx cy).run P w= .ok r w∧(¬ (cx= .nilIface∧cy= .nilIface))∧(∀ f g,¬ (cx= .agg f∧cy= .agg g))∧(∀ (b:BinOp),(b= .eql→(binOp b t cx cy).run P w= .ok (.bool r) w)∧(b= .neq→(binOp b t cx cy).run P w= .ok (.bool (!r)) w)):=by
 have key:(Op.equal t cx cy).run P w= .ok r w∧((∃ p,cx= .pointer p)∧(∃ q,cy= .pointer q)∨(∃ a n k,cx= .slice a n k)∧(∃ a n k,cy= .slice a n k)):=by
  unfold WW at h
  split at h
  ·rename_i e p hd
   cases h
   have hyy:=hy.bW rfl
   subst hyy
   obtain ⟨q,rfl⟩:∃ q,cx= .pointer (some q):=by cases hx <;> first|exact ⟨_,rfl⟩|(rename_i h;simp [flat] at h)
   refine ⟨?_,.inl ⟨⟨_,rfl⟩,_,rfl⟩⟩
   exact Y1 hd w 9999 _
  ·rename_i e p hd
   cases h
   have hxx:=hx.bW rfl
   subst hxx
   obtain ⟨q,rfl⟩:∃ q,cy= .pointer (some q):=by cases hy <;> first|exact ⟨_,rfl⟩|(rename_i h;simp [flat] at h)
   refine ⟨?_,.inl ⟨⟨_,rfl⟩,_,rfl⟩⟩
   exact XG hd w 9999 _
  ·rename_i e p n k n' k' hd
   cases h
   have hyy:=hy.bW rfl
   subst hyy
   obtain ⟨q,m,l,rfl⟩:∃ q m l,cx= .slice (some q) m l:=by cases hx <;> first|exact ⟨_,_,_,rfl⟩|(rename_i h;simp [flat] at h)
   refine ⟨?_,.inr ⟨⟨_,_,_,rfl⟩,_,_,_,rfl⟩⟩
   exact eq_sl1 hd w 9999 _ _ _ _ _
  ·rename_i e n k p n' k' hd
   cases h
   have hxx:=hx.bW rfl
   subst hxx
   obtain ⟨q,m,l,rfl⟩:∃ q m l,cy= .slice (some q) m l:=by cases hy <;> first|exact ⟨_,_,_,rfl⟩|(rename_i h;simp [flat] at h)
   refine ⟨?_,.inr ⟨⟨_,_,_,rfl⟩,_,_,_,rfl⟩⟩
   exact eq_sl2 hd w 9999 _ _ _ _ _
  ·cases h
 obtain ⟨h1,h2⟩:=key
 refine ⟨h1,?_,?_,fun b=>?_⟩
 ·rintro ⟨rfl,rfl⟩
  rcases h2 with ⟨⟨_,h⟩,_⟩|⟨⟨_,_,_,h⟩,_⟩ <;> cases h
 ·rintro f g ⟨rfl,rfl⟩
  rcases h2 with ⟨⟨_,h⟩,_⟩|⟨⟨_,_,_,h⟩,_⟩ <;> cases h
 ·rcases h2 with ⟨⟨p,rfl⟩,q,rfl⟩|⟨⟨p,n,k,rfl⟩,q,m,l,rfl⟩ <;> (refine ⟨?_,?_⟩ <;> rintro rfl <;> simp [binOp,h1])
theorem bin_ok {P:Program} {ρ:Rn} {a:A} {w:World} {o:Oper} {t:Fr} {c:Act} (hs:l4 ρ o t c) {b:BinOp} {ty yt:TypeId} {x y:Operand} (ho:o.op= .binOp b ty x y yt) {r:R1} (h:VI P o t b ty (ev t x) (ev t y)=some r):wN P ρ a w (execOp c.eval o) r:=by
 have hx:=hs.ev x (by rw [ho];simp [Op.operands])
 have hy:=hs.ev y (by rw [ho];simp [Op.operands])
 have hex:execOp c.eval o=(do pure (.value (← (do eqGuard b ty x y (c.eval x) (c.eval y);binOp b ty (c.eval x) (c.eval y)))):Sem Next):=by simp only [execOp,ho]
 unfold VI at h
 split at h
 ·rename_i k n l m ex ey
  split at h
  ·rename_i v hkl hf
   rw [AH] at h
   cases h
   rw [ex] at hx
   rw [ey] at hy
   have hkl':k=l:=by simpa using hkl
   subst hkl'
   have cx:=hx.eT
   have cy:=hy.eT
   refine ⟨v,.flat (DM hf),fun w'=>?_⟩
   rw [hex,cx,cy]
   simp [rZ b ty x y (.int k n) (.int k m) w' (fun h=>by cases h.1) (fun _ _ h=>by cases h.1),FN hf ty w']
  ·exact eK hs h
 ·unfold orElse at h
  split at h
  ·rename_i r' hp
   cases h
   exact eK hs hp
  ·split at h
   ·split at h
    ·rename_i rr hq
     cases h
     refine ⟨.bool rr,.flat rfl,fun w'=>?_⟩
     obtain ⟨_,e2,e3,e4⟩:=VK hx hy hq w'
     rw [hex]
     simp [rZ _ ty x y _ _ w' e2 e3,(e4 .eql).1 rfl]
    ·cases h
   ·split at h
    ·rename_i rr hq
     cases h
     refine ⟨.bool (!rr),.flat rfl,fun w'=>?_⟩
     obtain ⟨_,e2,e3,e4⟩:=VK hx hy hq w'
     rw [hex]
     simp [rZ _ ty x y _ _ w' e2 e3,(e4 .neq).2 rfl]
    ·cases h
   ·cases h
theorem GP (fn:Func) (h:fn.name= "internal/bytealg.MakeNoZero") (h2:fn.origin= ""):Extern.findNext fn=none∧Extern.find fn=some (Extern.BytealgMakeNoZero.makeNoZero fn.params fn.resultTypes):=by
 obtain ⟨name,x1,x2,x3,x4,x5,x6,x7,x8,x9,x10,x11,x12,x13,x14,x15⟩:=fn
 subst h
 subst h2
 exact ⟨by kernel_rfl,by kernel_rfl⟩
theorem s8:∀ (n t:Nat) (acc:Array Value),(Extern.BytealgMakeNoZero.digits n t acc).size=acc.size+n
 |0,_,_=>rfl
 |n+1,t,acc=>by simp only [Extern.BytealgMakeNoZero.digits,s8 n,Array.size_push];omega
theorem NU {P:Program} {ρ:Rn} {a:A} {w:World} (hR:Rel P ρ a w) (hn:ρ.bI a.next=none) {fn:Func} {args:List Value} {cargs:Array Value} (ha:LR ρ args cargs.toList) {r:R1} (h:rB P a fn args=some r):
  fn.body=none∧xY P ρ a w (Extern.BytealgMakeNoZero.makeNoZero fn.params fn.resultTypes cargs) r:=by
 unfold rB at h
 split at h
 ·rename_i ty n hb hty
  refine ⟨hb,?_⟩
  have hc:cargs=#[.int .i64 (Int.ofNat n)]:=by
   apply Array.toList_inj.1
   exact ha.bW rfl
  subst hc
  split at h
  ·rename_i elem hd
   split at h
   ·rename_i i hi hle
    have hle':=Nat.le_of_ble_eq_true hle
    split at h
    ·rename_i b a' hsz hnr
     cases h
     have hi1:=Nat.eq_of_beq_eq_true hsz
     have hge:=grownCap_ge w n 0 elem
     have hcm:grownCap w n 0 elem≤maxLen:=grownCap_le_maxLen w n 0 elem (by unfold maxLen;omega)
     obtain ⟨rfl,σ,s1,s2,s3,s4,s5⟩:=mC (w1:=w.drew.drew) hR hn hnr (C:=Extern.BytealgMakeNoZero.digits (grownCap w n 0 elem) (w.tape (w.drawn+1) (.extern "internal/bytealg.MakeNoZero.bytes" 0)) #[]) ⟨[],_,rfl,.nil⟩ (grownCap w n 0 elem) rfl rfl rfl rfl
      (fun _=>⟨i,hi,by rw [s8,hi1];simp,hcm⟩) (by simp)
     have hcap:cJ σ a.next 1=grownCap w n 0 elem:=by simp [cJ,s3]
     have hv:=VR.slice (o:=0) (n:=n) (k:=1) s2 (by rw [hcap];exact hge)
     rw [hcap] at hv
     refine ⟨_,_,σ,?_,hv,s4,.inr s5⟩
     have q1:(Question.appendCap n 0 elem).forced=false:=rfl
     have q2:(Question.extern "internal/bytealg.MakeNoZero.bytes" 0).forced=false:=rfl
     have n1:¬ (Int.ofNat n<0):=by show ¬ ((n:Int)<0);omega
     have n2:¬ (Int.ofNat n > 2 ^ 48):=by show ¬ ((n:Int) > 2 ^ 48);omega
     have hdef:Extern.BytealgMakeNoZero.makeNoZero fn.params fn.resultTypes #[.int .i64 (Int.ofNat n)]=(do
      let some t:=fn.resultTypes[0]?|stuck "bytealg.MakeNoZero: no result type"
      let .slice elem ← underlying t|stuck "bytealg.MakeNoZero: slice type expected"
      if Int.ofNat n<0 || Int.ofNat n > 2 ^ 48 then runtimePanic (.error "makeslice: len out of range")
      let cap ← choose (.appendCap (Int.ofNat n).toNat 0 elem)
      askRoom cap
      let bytes ← choose (.extern "internal/bytealg.MakeNoZero.bytes" 0)
      let a ← Go.newRow elem (Extern.BytealgMakeNoZero.digits cap bytes #[])
      pure (.slice (some a) (Int.ofNat n).toNat cap)):=rfl
     rw [hdef]
     simp only [hty,Sem.run_bind,bH hd,Result.andThen_ok,decide_eq_false n1,decide_eq_false n2,Bool.or_self,Bool.false_eq_true,if_false,pD,run_choose,q1,q2,run_askRoom,iV,Sem.run_pure]
     rfl
    ·cases h
   ·cases h
  ·cases h
 ·cases h
theorem tS {P:Program} {ρ:Rn} {a:A} {w:World} (hR:Rel P ρ a w) {pt it ty:TypeId} {p cp l cl:Value} (hp:VR ρ p cp) (hl:VR ρ l cl) {r:R1} (h:lD P a pt p l=some r):xY P ρ a w (Builtin.unsafeString_ #[pt,it] ty #[cp,cl]) r:=by
 unfold lD at h
 split at h
 ·rename_i b n
  obtain ⟨c,rfl,hc⟩:=hp.gT
  obtain rfl:=hl.eT
  split at h
  ·rename_i cs e m u hb hd
   split at h
   ·rename_i vs hq ht
    simp only [Bool.and_eq_true] at hq
    obtain ⟨⟨⟨⟨⟨q1,q2⟩,q3⟩,q4⟩,q5⟩,q6⟩:=hq
    obtain rfl:=Nat.eq_of_beq_eq_true q1
    have q2':=Nat.le_of_ble_eq_true q2
    have q3':=Nat.le_of_ble_eq_true q3
    have q5':=Nat.eq_of_beq_eq_true q5
    split at h
    ·rename_i bs hbs
     cases h
     obtain rfl:=nQ hbs
     obtain ⟨ws,h1,h2,h3⟩:=hR.taken hb hc ht
     have hws:=h1.bW (lI _)
     subst hws
     obtain ⟨C,fr,g1,g2,g3,g4,g5⟩:=hR.row hb hc
     have hlen:bs.length=n:=by simpa using h2
     have hsh:w.shape? c=some (e,C.size):=by unfold World.shape?;rw [g1]
     have hn:n≤C.size:=by
      have hle:=(take?_eq ht).2
      have:=g2.length
      simp at this
      omega
     have hrun:=Lib.run_unsafeString_row (P:=P) w pt it ty e hd q5' c C.size hsh bs (fun e=>by rw [e] at hlen;simp at hlen;omega) (by omega) (by omega) (fun j x hx=>by
      rw [add_eq]
      exact iK.1 h3 j _ (by simp [hx]))
     rw [hlen] at hrun
     refine ⟨_,_,ρ,hrun,.flat rfl,?_,.inl ⟨rfl,rfl⟩⟩
     obtain ⟨fr',hfr⟩:=EX w ⟨c,0,none⟩ n g1
     refine (St.put hR hb hc (by simp only [Nat.blt_eq] at q4;omega) (O1 w ⟨c,0,none⟩ n) ?_ (by show m≠2;intro e;rw [e] at q6;cases q6)).wide (fun _ hf=>hf.elim)
     rw [hfr]
     exact ⟨C,fr',rfl,g2,fun h=>absurd rfl h,(fun h=>by cases h),(fun h=>by cases h)⟩
    ·cases h
   ·cases h
  ·cases h
 ·cases h
theorem WO {P:Program} {ρ:Rn} {a:A} {w:World} (hR:Rel P ρ a w) {x cx:Value} (hx:VR ρ x cx) {ty:TypeId} {r:R1} (h:KH a x=some r):xY P ρ a w (Instr.next cx true ty) r:=by
 unfold KH at h
 split at h
 ·rename_i b
  obtain ⟨c,rfl,hc⟩:=hx.gT
  split at h
  ·rename_i s pos hb
   obtain ⟨c',h1,h2,h3⟩:=hR.obj b _ hb
   rw [hc] at h1;cases h1
   have hlt:c<w.heap.size:=(Array.getElem?_eq_some_iff.1 h2).1
   have hg:(getObj c).run P w= .ok (.stringIter s pos) w:=by simp only [getObj,Sem.run,h2]
   split at h
   ·rename_i hq
    cases h
    simp only [Bool.and_eq_true,Nat.blt_eq] at hq
    have hset:∀ o,(setObj c o).run P w= .ok () { w with heap:=w.heap.setIfInBounds c o } :=fun o=>by simp only [setObj,Sem.run,h2]
    refine ⟨_, { w with heap:=w.heap.setIfInBounds c (.stringIter s (pos+(Utf8.decode s pos).2)) },ρ,?_,.flat rfl,?_,.inl ⟨rfl,rfl⟩⟩
    ·simp only [Instr.next,Sem.run_bind,hg,Result.andThen_ok,hq.1,if_true,hset,Sem.run_pure]
    ·refine (St.put (w':= { w with heap:=w.heap.setIfInBounds c (.stringIter s (pos+(Utf8.decode s pos).2)) }) hR hb hc (by omega) ⟨rfl,rfl,rfl,by simp,fun k hk hne=>?_⟩ ?_ trivial).wide (fun _ hf=>hf.elim)
     ·have hne':¬ c=k:=fun e=>hne e.symm
      simp [Array.getElem?_setIfInBounds_ne hne']
     ·exact ⟨by simp [hlt],trivial⟩
   ·rename_i hq
    split at h
    ·cases h
    ·rename_i hq2
     cases h
     have hnl:¬ pos<s.size:=fun hl=>by
      have:Nat.blt pos s.size=true:=by simpa [Nat.blt_eq] using hl
      rw [this] at hq2;cases hq2
     refine ⟨_,w,ρ,?_,.flat rfl,St.refl hR,.inl ⟨rfl,rfl⟩⟩
     simp only [Instr.next,Sem.run_bind,hg,Result.andThen_ok,hnl,if_false,Sem.run_pure]
  ·cases h
 ·cases h
theorem LR.map {ρ:Rn} {α:Type} {f g:α→Value} :∀ (l:List α),(∀ x,x∈l→VR ρ (f x) (g x))→LR ρ (l.map f) (l.map g)
 | [],_=> .nil
 |x :: l,h=> .cons (h x List.mem_cons_self) (LR.map l (fun y hy=>h y (List.mem_cons_of_mem _ hy)))
theorem C7 {o:Oper} {b:Builtin} {xs:Array Operand} {ts:Array TypeId} (ho:o.op= .call ⟨.builtin b,xs,ts⟩) (ev:Operand→Value):
  ∃ consts,execOp ev o=builtin b ts o.type consts (xs.map ev):=⟨xs.map (fun| .const _=>true|_=>false),by simp only [execOp,ho];rfl⟩
theorem JS {o:Oper} {f:Operand} {xs:Array Operand} {ts:Array TypeId} (ho:o.op= .call ⟨.value f,xs,ts⟩) (ev:Operand→Value) {g:FuncId} {first captured:Array Value} (hf:ev f= .func (.func g) first captured):
  execOp ev o=callFunc g ((first++xs.map ev)++captured):=by simp only [execOp,ho,resolve,hf];rfl
theorem AJ {P:Program} {g:FuncId} {fn:Func} {cd:Code} (hf:P.funcs[g]?=some fn) (hb:fn.body=some cd) (hn:(fn.name== "runtime.NumGoroutine")=false) (args:Array Value) (w:World):(callFunc g args).run P w= .ok (.enter g args) w:=by
 have h1:¬ fn.name= "runtime.NumGoroutine" :=by simpa using hn
 simp [callFunc,hf,hb,h1]
theorem VY {P:Program} {ρ:Rn} {a:A} {w:World} (hR:Rel P ρ a w) (hn:ρ.bI a.next=none) {o:Oper} {t:Fr} {c:Act} (hs:l4 ρ o t c) {cl:Call} (ho:o.op= .call cl) {r:R1} (h:KI P o t a cl=some r):wN P ρ a w (execOp c.eval o) r:=by
 obtain ⟨callee,xs,ts⟩:=cl
 have hargs:∀ x,x∈xs.toList→VR ρ (ev t x) (c.eval x):=fun x hx=>hs.ev x (by rw [ho];simp [Op.operands,Call.operands];exact .inr (by simpa using hx))
 unfold KI at h
 split at h
 ·rename_i f hc
  simp only [] at hc h
  subst hc
  have hfv:=hs.ev f (by rw [ho];simp [Op.operands,Call.operands])
  split at h
  ·rename_i g first captured hf
   rw [hf] at hfv
   obtain ⟨f2,c2,hf2,l1,l2⟩:=hfv.u6
   have hex:=JS ho c.eval hf2
   have hl:LR ρ (first.toList++xs.toList.map (ev t)++captured.toList) ((f2++xs.map c.eval)++c2).toList:=by
    simp only [Array.toList_append,Array.toList_map]
    exact (l1.append (LR.map xs.toList hargs)).append l2
   split at h
   ·rename_i fn hfn
    split at h
    ·rename_i cd hb hnm
     cases h
     refine ⟨_,hl,fun w'=>?_⟩
     rw [hex]
     exact AJ hfn hb hnm _ w'
    ·rename_i hnb
     split at h
     ·rename_i hz
      simp only [Bool.and_eq_true,beq_iff_eq] at hz
      obtain ⟨hb,hok⟩:=NU hR hn hl h
      obtain ⟨e1,e2⟩:=GP fn hz.1 hz.2
      have hrun:∀ w',(callFunc g ((f2++xs.map c.eval)++c2)).run P w'=((Extern.BytealgMakeNoZero.makeNoZero fn.params fn.resultTypes ((f2++xs.map c.eval)++c2)).run P w').andThen fun v w'=> .ok (.value v) w':=fun w'=>
       run_callFunc_extern hfn (by rw [hz.1];rfl) (by rw [hb];rfl) e1 e2 _ w'
      unfold rB at h
      split at h
      ·split at h
       ·split at h
        ·split at h
         ·cases h
          obtain ⟨cv,w',σ,h1,h2,h3,h4⟩:=hok
          exact ⟨.value cv,cv,w',σ,by rw [hex,hrun w,h1];rfl,.inl rfl,h2,h3,h4⟩
         ·cases h
        ·cases h
       ·cases h
      ·cases h
     ·exact eK hs h
   ·cases h
  ·cases h
 ·rename_i b hc
  simp only [] at hc h
  subst hc
  obtain ⟨consts,hex⟩:=C7 ho c.eval
  obtain ⟨xl⟩:=xs
  obtain ⟨tl⟩:=ts
  split at h
  ·rename_i ty tx s x e1 e2
   simp only [] at e1 e2
   subst e1 e2
   have h1:=hargs s (by simp)
   have h2:=hargs x (by simp)
   rw [hex,show Array.map c.eval { toList:= [s,x] } =#[c.eval s,c.eval x] from by simp]
   exact (PQ (ty:=o.type) hR hn h1 h2 h).lift
  ·rename_i ty tl' d s e1 e2
   simp only [] at e1 e2
   subst e1 e2
   have h1:=hargs d (by simp)
   have h2:=hargs s (by simp)
   rw [hex,show Array.map c.eval { toList:= [d,s] } =#[c.eval d,c.eval s] from by simp]
   exact (V0 (ty:=o.type) (ts:=tl') hR h1 h2 h).lift
  ·rename_i ty tl' x e1 e2
   simp only [] at e1 e2
   subst e1 e2
   have h1:=hargs x (by simp)
   split at h
   ·rename_i p n k e hv hd
    cases h
    rw [hv] at h1
    obtain ⟨q,m,l,hq,hm⟩:∃ q m l,c.eval x= .slice (some q) m l∧m=n:=by
     generalize c.eval x=cx at h1
     cases h1 with
     |flat h=>simp [flat] at h
     |slice _ _=>exact ⟨_,_,_,rfl,rfl⟩
    refine ⟨_,.flat rfl,fun w'=>?_⟩
    rw [hex]
    simp [builtin,Builtin.len_,bH hd,hq,hm]
   ·exact eK hs h
  ·rename_i ty tl' x e1 e2
   simp only [] at e1 e2
   subst e1 e2
   have h1:=hargs x (by simp)
   split at h
   ·rename_i p n k e hv hd
    split at h
    ·rename_i hk
     cases h
     rw [hv] at h1
     have hk0:∀ b,cJ ρ b k=k / 2:=fun b=>by simp [cJ,Nat.eq_of_beq_eq_true hk]
     obtain ⟨q,m,hq⟩:∃ q m,c.eval x= .slice (some q) m (k / 2):=by
      generalize c.eval x=cx at h1
      cases h1 with
      |flat h=>simp [flat] at h
      |slice _ _=>exact ⟨_,_,by rw [hk0]⟩
     refine ⟨_,.flat rfl,fun w'=>?_⟩
     rw [hex]
     simp [builtin,Builtin.cap_,bH hd,hq]
    ·cases h
   ·exact eK hs h
  ·rename_i tl' x e2
   simp only [] at e2
   subst e2
   have h1:=hargs x (by simp)
   split at h
   ·rename_i b o' n k hv
    cases h
    rw [hv] at h1
    obtain ⟨q,hq,hqc,hcap⟩:=h1.fL
    refine ⟨_,.ptr hqc,fun w'=>?_⟩
    rw [hex]
    have:=Lib.run_unsafeSliceData_row (P:=P) w' ⟨tl⟩ o.type ⟨q,o',none⟩ (n+1) (cJ ρ b k) (by omega)
    simp [builtin,hq,this]
   ·exact eK hs h
  ·rename_i pt it p l e1 e2
   simp only [] at e1 e2
   subst e1 e2
   have h1:=hargs p (by simp)
   have h2:=hargs l (by simp)
   split at h
   ·exact eK hs h
   ·rw [hex,show Array.map c.eval { toList:= [p,l] } =#[c.eval p,c.eval l] from by simp]
    exact (tS (it:=it) (ty:=o.type) hR h1 h2 h).lift
  ·exact eK hs h
 ·cases h
theorem LK.map {ρ:Rn} {f g:Operand→Value} {x:Option Operand} (h:∀ y,y∈x.toList→VR ρ (f y) (g y)):LK ρ (x.map f) (x.map g):=by
 cases x with
 |none=>trivial
 |some y=>exact h y (by simp)
theorem FM {P:Program} {ρ:Rn} {a:A} {w:World} {o:Oper} {t:Fr} {c:Act} (hs:l4 ρ o t c) {ty:TypeId} {x:Operand} {lo hi mx:Option Operand} (ho:o.op= .slice ty x lo hi mx) {r:R1} (h:opSl P o t ty (ev t x) (lo.map (ev t)) (hi.map (ev t)) (mx.map (ev t))=some r):wN P ρ a w (execOp c.eval o) r:=by
 unfold opSl at h
 split at h
 ·exact eK hs h
 ·unfold orElse at h
  split at h
  ·rename_i r' hp
   cases h
   have:=(VG (a:=a) (w:=w) (hs.ev x (by rw [ho];simp [Op.operands])) (LK.map (x:=lo) (fun y hy=>hs.ev y (by rw [ho];simp only [Op.operands];simp at hy ⊢;simp [hy]))) (LK.map (x:=hi) (fun y hy=>hs.ev y (by rw [ho];simp only [Op.operands];simp at hy ⊢;simp [hy]))) (LK.map (x:=mx) (fun y hy=>hs.ev y (by rw [ho];simp only [Op.operands];simp at hy ⊢;simp [hy]))) hp).lift
   simpa only [execOp,ho] using this
  ·exact eK hs h
theorem nil_ok {P:Program} {ρ:Rn} {a:A} {w:World} {o:Oper} {t:Fr} {c:Act} (hs:l4 ρ o t c) {x:Operand} (ho:o.op= .nilCheck x) {r:R1} (h:TO (ev t x)=some r):wN P ρ a w (execOp c.eval o) r:=by
 have hx:=hs.ev x (by rw [ho];simp [Op.operands])
 unfold TO at h
 split at h
 ·rename_i p hp
  cases h
  refine ⟨_,hx,fun w'=>?_⟩
  rw [hp] at hx
  obtain ⟨q,hq⟩:∃ q,c.eval x= .pointer (some q):=by
   generalize c.eval x=cx at hx
   cases hx with
   |flat h=>simp [flat] at h
   |ptr _=>exact ⟨_,rfl⟩
   |fU=>exact ⟨_,rfl⟩
  simp only [execOp,ho,hq]
  rfl
 ·rename_i g f cc hp
  cases h
  refine ⟨_,hx,fun w'=>?_⟩
  rw [hp] at hx
  obtain ⟨f2,c2,h2,_⟩:=hx.u6
  simp only [execOp,ho,h2]
  rfl
 ·cases h
theorem RQ {P:Program} {w:World} {c:Nat} {es:Array MapEntry} {k:Nat} (h:w.heap[c]?=some (.map es k)) (ty:TypeId) (i:Value) (ok:Bool):(Instr.lookup ty (.map (some c)) i ok).run P w=(QH ty es i ok).run P w:=by
 have hg:(getObj c).run P w= .ok (.map es k) w:=by simp only [getObj,Sem.run,h]
 unfold Instr.lookup QH
 simp only [Sem.run_bind]
 cases hu:(underlying ty).run P w with
 |halt hh w'=>rfl
 |ok d w'=>
  have hw:w'=w:=by
   unfold underlying at hu
   simp only [Sem.run_bind,run_program,Result.andThen_ok] at hu
   split at hu <;> simp at hu
   exact hu.2.symm
  subst hw
  simp only [Result.andThen_ok]
  cases d <;> first|rfl|skip
  simp only [Sem.run_bind,hg,Result.andThen_ok,Sem.run_pure]
  rfl
theorem MT {P:Program} {ρ:Rn} {a:A} {w:World} (hR:Rel P ρ a w) {ty:TypeId} {x cx i ci:Value} (hx:VR ρ x cx) (hi:VR ρ i ci) {ok:Bool} {r:R1} (h:wS P a ty x i ok=some r):xY P ρ a w (Instr.lookup ty cx ci ok) r:=by
 unfold wS at h
 split at h
 ·rename_i b
  obtain ⟨c,rfl,hc⟩:∃ c,cx= .map (some c)∧ρ.bI b=some c:=by
   cases hx with
   |flat h=>simp [flat] at h
   |map h=>exact ⟨_,rfl,h⟩
  split at h
  ·rename_i es k hb hf
   have:=hi.bW hf
   subst this
   split at h
   ·rename_i v hv
    split at h
    ·rename_i hfv
     cases h
     obtain ⟨c',h1,h2,h3⟩:=hR.obj b _ hb
     rw [hc] at h1;cases h1
     exact ⟨v,w,ρ,by rw [RQ h2];exact oO hv w,.flat hfv,St.refl hR,.inl ⟨rfl,rfl⟩⟩
    ·cases h
   ·cases h
  ·cases h
 ·cases h
theorem YI {P:Program} {w:World} {c:Nat} {es:Array MapEntry} {k:Nat} (h:w.heap[c]?=some (.map es k)) {ty:TypeId} {i v:Value} (hn:∀ w,(JL ty es i).run P w= .ok (.bool true) w):(Instr.mapUpdate ty (.map (some c)) i v).run P w= .ok () { w with heap:=w.heap.setIfInBounds c (.map (es.push { key:=i,val:=v,born:=k }) (k+1)) } :=by
 have hg:(getObj c).run P w= .ok (.map es k) w:=by simp only [getObj,Sem.run,h]
 have hs:∀ o,(setObj c o).run P w= .ok () { w with heap:=w.heap.setIfInBounds c o } :=fun o=>by simp only [setObj,Sem.run,h]
 have hn':=hn w
 unfold JL at hn'
 unfold Instr.mapUpdate
 simp only [Sem.run_bind] at hn' ⊢
 cases hu:(underlying ty).run P w with
 |halt hh w'=>rw [hu] at hn';simp at hn'
 |ok d w'=>
  have hw:w'=w:=by
   unfold underlying at hu
   simp only [Sem.run_bind,run_program,Result.andThen_ok] at hu
   split at hu <;> simp at hu
   exact hu.2.symm
  subst hw
  rw [hu] at hn'
  simp only [Result.andThen_ok] at hn' ⊢
  cases d with
  |map kt et=>
   simp only [Sem.run_bind,hg,Result.andThen_ok] at hn' ⊢
   cases h1:(Instr.checkKey false 10000 kt i).run P w' with
   |halt hh w1=>rw [h1] at hn';simp at hn'
   |ok u w1=>
    rw [h1] at hn'
    simp only [Result.andThen_ok] at hn' ⊢
    cases h2:(Instr.findKey kt i es.toList).run P w1 with
    |halt hh w2=>rw [h2] at hn';simp at hn'
    |ok u2 w2=>
     rw [h2] at hn'
     simp only [Result.andThen_ok] at hn' ⊢
     cases u2 with
     |some q=>simp at hn'
     |none=>
      simp only [Sem.run_pure,Result.ok.injEq,true_and] at hn'
      subst hn'
      exact hs _
  |_=>simp at hn'
theorem OX {P:Program} {ρ:Rn} {a:A} {w:World} (hR:Rel P ρ a w) {ty:TypeId} {x cx i ci v cv:Value} (hx:VR ρ x cx) (hi:VR ρ i ci) (hv:VR ρ v cv) {r:R1} (h:xE P a ty x i v=some r):
  ∃ a' w',r= .act undef a'∧(Instr.mapUpdate ty cx ci cv).run P w= .ok () w'∧St P (fun _=>False) ρ a w ρ a' w'∧a'.next=a.next:=by
 unfold xE at h
 split at h
 ·rename_i b
  obtain ⟨c,rfl,hc⟩:∃ c,cx= .map (some c)∧ρ.bI b=some c:=by
   cases hx with
   |flat h=>simp [flat] at h
   |map h=>exact ⟨_,rfl,h⟩
  split at h
  ·rename_i es k hb hf
   simp only [Bool.and_eq_true] at hf
   have e1:=hi.bW hf.1.1
   have e2:=hv.bW hf.1.2
   subst e1 e2
   split at h
   ·rename_i hnk
    cases h
    obtain ⟨c',h1,h2,h3⟩:=hR.obj b _ hb
    rw [hc] at h1;cases h1
    have hlt:c<w.heap.size:=(Array.getElem?_eq_some_iff.1 h2).1
    refine ⟨_,_,rfl,YI h2 (fun w=>oO hnk w),?_,rfl⟩
    refine St.put (w':= { w with heap:=w.heap.setIfInBounds c (.map (es.push { key:=ci,val:=cv,born:=k }) (k+1)) }) hR hb hc (by have:=hf.2;simp only [Nat.blt_eq] at this;omega) ⟨rfl,rfl,rfl,by simp,fun k hk hne=>?_⟩ ?_ trivial
    ·have hne':¬ c=k:=fun e=>hne e.symm
     simp [Array.getElem?_setIfInBounds_ne hne']
    ·exact ⟨by simp [hlt],trivial⟩
   ·cases h
  ·cases h
 ·cases h
theorem LG {P:Program} {ρ:Rn} {a:A} {w:World} (hR:Rel P ρ a w) (hn:ρ.bI a.next=none) {o:Oper} {t:Fr} {c:Act} (hs:l4 ρ o t c) {r:R1} (h:op P o t a=some r):wN P ρ a w (execOp c.eval o) r:=by
 unfold op at h
 cases ho:o.op <;> rw [ho] at h <;> simp only [disp] at h
 case move x=>
  cases h
  exact ⟨_,hs.ev x (by rw [ho];simp [Op.operands]),fun w'=>by simp only [execOp,ho];rfl⟩
 case assign x=>
  cases h
  exact ⟨_,hs.ev x (by rw [ho];simp [Op.operands]),fun w'=>by simp only [execOp,ho];rfl⟩
 case pick d x y=>
  unfold SR at h
  have hd:=hs.ev d (by rw [ho];simp [Op.operands])
  split at h
  ·rename_i hb
   cases h
   rw [hb] at hd
   have:=hd.jR
   exact ⟨_,hs.ev x (by rw [ho];simp [Op.operands]),fun w'=>by simp only [execOp,ho,this];rfl⟩
  ·rename_i hb
   cases h
   rw [hb] at hd
   have:=hd.jR
   exact ⟨_,hs.ev y (by rw [ho];simp [Op.operands]),fun w'=>by simp only [execOp,ho,this];rfl⟩
  ·cases h
 case alloc e=>
  have:=(VN hR hn h).lift
  simpa only [execOp,ho] using this
 case box e x=>
  have:=(SL hR hn (hs.ev x (by rw [ho];simp [Op.operands])) h).lift
  simpa only [execOp,ho] using this
 case build ty ps=>
  have:=(TF (ρ:=ρ) (a:=a) (w:=w) (f:=ev t) (g:=c.eval) (fun p hp=>hs.ev p.2 (by rw [ho];simp only [Op.operands];simp;exact ⟨p.1,by simpa using hp⟩)) h).lift
  simpa only [execOp,ho] using this
 case buildSlice ty n ps=>
  have:=(yQ hR hn (f:=ev t) (g:=c.eval) (fun p hp=>hs.ev p.2 (by rw [ho];simp only [Op.operands];simp;exact ⟨p.1,by simpa using hp⟩)) h).lift
  simpa only [execOp,ho] using this
 case load ty x=>
  have:=(LV hR (hs.ev x (by rw [ho];simp [Op.operands])) h).lift
  simpa only [execOp,ho] using this
 case store ty x v=>
  obtain ⟨a',w',rfl,h1,h2,h3⟩:=TH hR (hs.ev x (by rw [ho];simp [Op.operands])) (hs.ev v (by rw [ho];simp [Op.operands])) h
  refine ⟨.skip,undef,w',ρ,?_,.inr ⟨rfl,rfl⟩,.undef,h2.wide (fun _ hf=>hf.elim),.inl ⟨h3,rfl⟩⟩
  simp only [execOp,ho,Sem.run_bind,h1,Result.andThen_ok,Sem.run_pure]
 case nilCheck x=>exact nil_ok hs ho h
 case binOp b ty x y yt=>exact bin_ok hs ho h
 case convert src dst x=>
  unfold Q7 at h
  split at h
  ·exact eK hs h
  ·unfold orElse at h
   split at h
   ·rename_i r' hp
    cases h
    have:=(IW hR hn (hs.ev x (by rw [ho];simp [Op.operands])) hp).lift
    simpa only [execOp,ho] using this
   ·exact eK hs h
 case makeInterface ty x=>
  unfold KQ orElse at h
  split at h
  ·rename_i r' hp
   cases h
   exact eK hs hp
  ·split at h
   ·rename_i p e hv hd
    cases h
    have hx:=hs.ev x (by rw [ho];simp [Op.operands])
    rw [hv] at hx
    refine ⟨.iface ty (c.eval x),.iface hx,fun w'=>?_⟩
    simp [execOp,ho,Instr.makeInterface,bH hd]
   ·cases h
 case makeFunc fn f cc=>
  cases h
  refine ⟨.func fn (f.map c.eval) (cc.map c.eval),.func ?_ ?_,fun w'=>by simp only [execOp,ho,Instr.makeFunc];rfl⟩
  ·rw [Array.toList_map,Array.toList_map]
   exact LR.map f.toList (fun x hx=>hs.ev x (by rw [ho];simp only [Op.operands];simp;exact .inl (by simpa using hx)))
  ·rw [Array.toList_map,Array.toList_map]
   exact LR.map cc.toList (fun x hx=>hs.ev x (by rw [ho];simp only [Op.operands];simp;exact .inr (by simpa using hx)))
 case makeMap ty rs=>
  cases rs with
  |none=>
   have:=(qJ (s:=Instr.makeMap ty none) hR hn (o:= .map #[] 0) trivial (f:=fun b=> .map (some b)) (g:=fun b=> .map (some b)) (fun σ b c hb=> .map hb) rfl h).lift
   simpa only [execOp,ho,Option.map_none] using this
  |some x=>exact eK hs h
 case makeChan ty s=>
  unfold RO at h
  have hx:=hs.ev s (by rw [ho];simp [Op.operands])
  split at h
  ·rename_i k n d elem hv hd
   rw [hv] at hx
   have hxx:=hx.eT
   split at h
   ·rename_i i hi
    split at h
    ·rename_i hq
     simp only [Bool.and_eq_true] at hq
     have q1:=Nat.le_of_ble_eq_true hq.1
     have q2:=Nat.le_of_ble_eq_true hq.2
     have hm:i.bytes*n≤65536*1024:=Nat.mul_le_mul q2 q1
     have hrun:(Instr.makeChan ty (.int k (Int.ofNat n))).run P w= .ok (.chan (some w.heap.size)) (w.alloc (.chan n #[] false 0 0 false)):=by
      have hmax:IntKind.i64.max=9223372036854775807:=rfl
      have hcond:¬ (Int.ofNat n<0∨Int.ofNat n > IntKind.i64.max∨(i.bytes:Int)*Int.ofNat n > 2 ^ 48 - 112):=by
       have h1:(i.bytes:Int)*Int.ofNat n=((i.bytes*n:Nat):Int):=by simp
       rw [h1,hmax]
       show ¬ ((n:Int)<0∨(n:Int) > _∨_)
       omega
      simp only [Instr.makeChan,asInt,Sem.run_bind,iE,Result.andThen_ok,Sem.run_pure,bH hd,EH hi,if_neg hcond,pD]
      rfl
     have:=(qJ (s:=Instr.makeChan ty (.int k (Int.ofNat n))) hR hn (o:= .chan n #[] false 0 0 false) trivial (f:=fun b=> .chan (some b)) (g:=fun b=> .chan (some b)) (fun σ b c hb=> .chan hb) hrun h).lift
     simpa only [execOp,ho,hxx] using this
    ·cases h
   ·cases h
  ·cases h
 case makeSlice ty l cc=>
  have:=(BI hR hn (hs.ev l (by rw [ho];simp [Op.operands])) (hs.ev cc (by rw [ho];simp [Op.operands])) h).lift
  simpa only [execOp,ho] using this
 case slice ty x lo hi mx=>exact FM hs ho h
 case fieldAddr ty x f=>
  have:=(C8 (a:=a) (w:=w) (hs.ev x (by rw [ho];simp [Op.operands])) h).lift
  simpa only [execOp,ho] using this
 case indexAddr ty x i=>
  have:=(DP (a:=a) (w:=w) (hs.ev x (by rw [ho];simp [Op.operands])) (hs.ev i (by rw [ho];simp [Op.operands])) h).lift
  simpa only [execOp,ho] using this
 case index ty x i=>
  unfold KS at h
  have hx:=hs.ev x (by rw [ho];simp [Op.operands])
  have hi:=hs.ev i (by rw [ho];simp [Op.operands])
  split at h
  ·rename_i l k j hv hj
   rw [hv] at hx
   rw [hj] at hi
   have hxx:=hx.kW
   have hii:=hi.eT
   split at h
   ·rename_i b hd hb
    rw [sC] at h
    cases h
    refine ⟨_,.flat rfl,fun w'=>?_⟩
    rw [KW] at hb
    have hlt:j<l.length:=(List.getElem?_eq_some_iff.1 hb).1
    have hge:(ByteArray.mk ⟨l⟩)[j]?=some b:=by
     have h1:j<(ByteArray.mk ⟨l⟩).size:=hlt
     rw [getElem?_pos (ByteArray.mk ⟨l⟩) j h1]
     have h2:=(List.getElem?_eq_some_iff.1 hb).2
     rw [← h2]
     rfl
    have h0:(0:Int)≤Int.ofNat j:=Int.natCast_nonneg j
    have hr:(Instr.index ty (.string ⟨⟨l⟩⟩) (.int k (Int.ofNat j))).run P w'= .ok (.int .u8 (Int.ofNat b.toNat)) w':=by
     simp only [Instr.index,Sem.run_bind,iE,Result.andThen_ok,bH hd,h0,if_true,pD,hge,Sem.run_pure]
     rfl
    simp only [execOp,ho,hxx,hii,Sem.run_bind,hr,Result.andThen_ok,Sem.run_pure]
   ·exact eK hs h
  ·exact eK hs h
 case range ty x=>
  unfold LX at h
  have hx:=hs.ev x (by rw [ho];simp [Op.operands])
  split at h
  ·rename_i s hd hv
   rw [hv] at hx
   have hxx:=hx.kW
   have:=(qJ (s:=Instr.range ty (.string s)) hR hn (o:= .stringIter s 0) trivial (f:=fun b=> .pointer (some ⟨b,0,none⟩)) (g:=fun b=> .pointer (some ⟨b,0,none⟩)) (fun σ b c hb=> .ptr hb) (by simp only [Instr.range,Sem.run_bind,bH hd,Result.andThen_ok,Sem.run_pure,Go.newObj];rfl) h).lift
   simpa only [execOp,ho,hxx] using this
  ·cases h
 case next x isS=>
  cases isS with
  |true=>
   have:=(WO (ty:=o.type) hR (hs.ev x (by rw [ho];simp [Op.operands])) h).lift
   simpa only [execOp,ho] using this
  |false=>exact eK hs h
 case extract x i=>
  have:=(JI (P:=P) (a:=a) (w:=w) (hs.ev x (by rw [ho];simp [Op.operands])) h).lift
  simpa only [execOp,ho] using this
 case lookup ty x i ok=>
  have:=(MT hR (hs.ev x (by rw [ho];simp [Op.operands])) (hs.ev i (by rw [ho];simp [Op.operands])) h).lift
  simpa only [execOp,ho] using this
 case mapUpdate ty x i v=>
  obtain ⟨a',w',rfl,h1,h2,h3⟩:=OX hR (hs.ev x (by rw [ho];simp [Op.operands])) (hs.ev i (by rw [ho];simp [Op.operands])) (hs.ev v (by rw [ho];simp [Op.operands])) h
  refine ⟨.skip,undef,w',ρ,?_,.inr ⟨rfl,rfl⟩,.undef,h2.wide (fun _ hf=>hf.elim),.inl ⟨h3,rfl⟩⟩
  simp only [execOp,ho,Sem.run_bind,h1,Result.andThen_ok,Sem.run_pure]
 case call cl=>exact VY hR hn hs ho h
 all_goals exact eK hs h
def D6 (ρ:Rn) (n:Nat):Prop:=∀ b,n≤b→ρ.bI b=none
def GL (G:Nat) (ρ:Rn):Prop:=∀ g,g<G→ρ.bI g=some g
structure yA (P:Program) (G:Nat) (D:List Deferred) (ρ:Rn) (t:Fr) (a:A) (c:Act) (w:World):Prop where
 rel:Rel P ρ a w
 new:D6 ρ a.next
 gl:GL G ρ
 tr:TR ρ t c.tmps
 df:c.defers=D
theorem GL.ext {G:Nat} {ρ σ:Rn} (h:GL G ρ) (hl:ρ.le σ):GL G σ:=fun g hg=>(hl g g (h g hg)).1
def bV (P:Program) (G:Nat) (call:Callee):Prop:=∀ f args a v a',call f args a=some (v,a')→∀ ρ w (cargs:Array Value),Rel P ρ a w→D6 ρ a.next→GL G ρ→LR ρ args cargs.toList→
 Calls P f cargs w fun e w'=>∃ cv σ,e= .returned cv∧VR σ v cv∧St P (fun b=>a.next≤b) ρ a w σ a' w'∧D6 σ a'.next∧a.next≤a'.next
def J9 (G:Nat) (o:Oper):Bool:=o.op.operands.all (N7 G)
theorem OZ {ρ:Rn} {G:Nat} (hg:GL G ρ) {o:Oper} (ho:J9 G o=true) {t:Fr} {c:Act} (h:TR ρ t c.tmps):l4 ρ o t c:=by
 refine ⟨fun x hx=>?_⟩
 have hx':x∈o.op.operands:=by simpa using hx
 have:=Array.all_eq_true_iff_forall_mem.1 ho x hx'
 cases x with
 |tmp i=>exact h.get i
 |const v=>exact VR.flat (v:=v) (by simpa [N7] using this)
 |global g=>exact .ptr (hg g (by simpa [N7,Nat.blt_eq] using this))
 |func f=>exact .flat rfl
theorem VR.XQ {ρ:Rn} {v:Value} {b:Bool} (h:VR ρ v (.bool b)):v= .bool b:=by
 generalize hw:Value.bool b=w at h
 cases h with
 |flat h=>rfl
 |_=>cases hw
theorem kI {ρ:Rn} {t:Fr} {c:Array Value} (h:TR ρ t c) (ops:Array Oper) (o:Oper):wanted ops o t=Region.wanted o (yielded ops c):=by
 unfold wanted Region.wanted
 cases hg:o.guard with
 |none=>rfl
 |some q=>
  obtain ⟨j,want⟩:=q
  simp only []
  unfold yielded
  cases hd:(ops[j]?).bind (·.dst) with
  |none=>simp
  |some d=>
   simp only [Option.bind_some]
   have hv:=h.get d
   cases hc:c[d]? with
   |none=>
    have hu:c.getD d Go.undef=Go.undef:=by simp [hc]
    rw [hu] at hv
    have hn:∀ b,iF t d≠ .bool b:=fun b e=>by
     rw [e] at hv
     have:=hv.jR
     cases this
    cases hl:iF t d <;> first|rfl|(exact absurd hl (hn _))
   |some u=>
    have hu:c.getD d Go.undef=u:=by simp [hc]
    rw [hu] at hv
    cases u with
    |bool b=>
     rw [hv.XQ]
     simp
    |_=>
     have hn:∀ b,iF t d≠ .bool b:=fun b e=>by
      rw [e] at hv
      have:=hv.jR
      cases this
     cases hl:iF t d <;> first|rfl|(exact absurd hl (hn _))
section
variable {P:Program} {ρ:Rn} {a:A} {w:World} {o:Oper} {c:Act} {K:Act→World→Prop} {Q:Exit→Act→World→Prop}
theorem vA {v:Value} {w':World} (h:(execOp c.eval o).run P w= .ok (.value v) w') (hK:K (c.put o.dst v) w'):o.wp P c w K Q:=by
 unfold Oper.wp;rw [h];exact hK
theorem TS {w':World} (h:(execOp c.eval o).run P w= .ok .skip w') (hK:K (c.put o.dst undef) w'):o.wp P c w K Q:=by
 unfold Oper.wp;rw [h];exact hK
theorem wN.pu_wp {v:Value} (h:wN P ρ a w (execOp c.eval o) (.pu v)) (hK:∀ cv,VR ρ v cv→K (c.put o.dst cv) w):o.wp P c w K Q:=by
 obtain ⟨cv,h1,h2⟩:=h
 exact vA (h2 w) (hK cv h1)
theorem wN.ZU {v:Value} {fs:jZ} (h:wN P ρ a w (execOp c.eval o) (.rd v fs)) (hK:∀ cv,VR ρ v cv→K (c.put o.dst cv) w):o.wp P c w K Q:=by
 obtain ⟨cv,L,h1,h2,h3,h4⟩:=h
 exact vA (h4 w h3) (hK cv h1)
theorem wN.RB {v:Value} {a':A} (h:wN P ρ a w (execOp c.eval o) (.act v a')) (hK:∀ cv w' σ,VR σ v cv→St P (fun b=>b=a.next) ρ a w σ a' w'→(a'.next=a.next∧σ=ρ∨a'.next=a.next+1)→K (c.put o.dst cv) w'):o.wp P c w K Q:=by
 obtain ⟨n,cv,w',σ,h1,h2,h3,h4,h5⟩:=h
 rcases h2 with rfl|⟨rfl,rfl⟩
 ·exact vA h1 (hK cv w' σ h3 h4 h5)
 ·exact TS h1 (hK _ w' σ h3 h4 h5)
theorem wN.cl_wp {f:FuncId} {args:List Value} (h:wN P ρ a w (execOp c.eval o) (.cl f args)) (hK:∀ cargs:Array Value,LR ρ args cargs.toList→Calls P f cargs w fun e w'=>∃ cv,e= .returned cv∧K (c.put o.dst cv) w'):o.wp P c w K Q:=by
 obtain ⟨cargs,h1,h2⟩:=h
 unfold Oper.wp
 rw [h2 w]
 exact (hK cargs h1).mono fun e w' ⟨cv,he,hk⟩=>by subst he;exact hk
end
theorem yA.act {P:Program} {G:Nat} {D:List Deferred} {ρ σ:Rn} {t:Fr} {a a':A} {c:Act} {w w':World} (h:yA P G D ρ t a c w) {v cv:Value} (hv:VR σ v cv) (hs:St P (fun b=>a.next≤b) ρ a w σ a' w') (hn:D6 σ a'.next) (d:Option Tmp):yA P G D σ (pL t d v) a' (c.put d cv) w':=by
 have hl:=hs.le h.new
 exact ⟨hs.rel,hn,h.gl.ext hl,(h.tr.mono hl).put hv d,by cases d <;> exact h.df⟩
theorem F3 {P:Program} {ρ σ:Rn} {a a':A} {w w':World} (h:D6 ρ a.next) (hs:St P (fun b=>b=a.next) ρ a w σ a' w') (hn:a'.next=a.next∧σ=ρ∨a'.next=a.next+1):D6 σ a'.next∧a.next≤a'.next:=by
 rcases hn with ⟨h1,rfl⟩|h1
 ·exact ⟨by rw [h1];exact h,by omega⟩
 ·exact ⟨fun b hb=>by rw [(hs.ext b (by omega)).1];exact h b (by omega),by omega⟩
theorem FH (P:Program) (call:Callee) (all:Array Oper) (t:Fr) (a:A):IG P call all [] t a=some (t,a):=rfl
theorem BA (P:Program) (call:Callee) (all:Array Oper) (o:Oper) (l:List Oper) (t:Fr) (a:A):IG P call all (o :: l) t a=bif wanted all o t then step1 P call o (IG P call all l) t a (op P o t a) else IG P call all l (pL t o.dst undef) a:=rfl
theorem KV {P:Program} {G:Nat} {D:List Deferred} {call:Callee} (hc:bV P G call) (all:Array Oper) {Q:Exit→Act→World→Prop} :∀ (l:List Oper),(∀ o∈l,J9 G o=true)→∀ {ρ:Rn} {t t':Fr} {a a':A} {c:Act} {w:World},yA P G D ρ t a c w→IG P call all l t a=some (t',a')→
  (∀ σ c' w',yA P G D σ t' a' c' w'→St P (fun b=>a.next≤b) ρ a w σ a' w'→a.next≤a'.next→Q .normal c' w')→wpList P all Q l c w
 | [],_,ρ,t,t',a,a',c,w,hS,h,hQ=>by
  rw [FH] at h
  cases h
  exact hQ ρ c w hS (St.refl hS.rel) (Nat.le_refl _)
 |o :: l,hol,ρ,t,t',a,a',c,w,hS,h,hQ=>by
  rw [BA,kI hS.tr] at h
  have ih:= @KV P G D call hc all Q l (fun o ho=>hol o (List.mem_cons_of_mem _ ho))
  cases hw:Region.wanted o (yielded all c.tmps)
  ·rw [hw,cond_false] at h
   unfold wpList
   rw [if_neg (by rw [hw];simp)]
   exact ih (hS.act .undef (St.refl hS.rel) hS.new o.dst) h hQ
  ·rw [hw,cond_true] at h
   unfold wpList
   rw [if_pos hw]
   refine .inl ?_
   have hop:=fun r (hr:op P o t a=some r)=>LG hS.rel (hS.new a.next (Nat.le_refl _)) (OZ hS.gl (hol o List.mem_cons_self) hS.tr) hr
   unfold step1 at h
   split at h
   ·rename_i v hr
    exact (hop _ hr).pu_wp fun cv hv=>ih (hS.act hv (St.refl hS.rel) hS.new o.dst) h hQ
   ·rename_i v fs hr
    exact (hop _ hr).ZU fun cv hv=>ih (hS.act hv (St.refl hS.rel) hS.new o.dst) h hQ
   ·rename_i v a1 hr
    refine (hop _ hr).RB fun cv w' σ hv hs hn=>?_
    obtain ⟨n1,n2⟩:=F3 hS.new hs hn
    have hs':=hs.wide (M:=fun b=>a.next≤b) (fun b hb=>by rw [hb];exact Nat.le_refl _)
    exact ih (hS.act hv hs' n1 o.dst) h fun τ c' w'' k1 k2 k3=>hQ τ c' w'' k1 (hs'.trans (k2.wide fun b hb=>Nat.le_trans n2 hb)) (Nat.le_trans n2 k3)
   ·rename_i f args hr
    refine (hop _ hr).cl_wp fun cargs hl=>?_
    split at h
    ·rename_i v a1 hcl
     refine (hc f args a v a1 hcl ρ w cargs hS.rel hS.new hS.gl hl).mono ?_
     rintro e w' ⟨cv,σ,rfl,hv,hs,n1,n2⟩
     exact ⟨cv,rfl,ih (hS.act hv hs n1 o.dst) h fun τ c' w'' k1 k2 k3=>hQ τ c' w'' k1 (hs.trans (k2.wide fun b hb=>Nat.le_trans n2 hb)) (Nat.le_trans n2 k3)⟩
    ·cases h
   ·cases h
theorem l5 (a b:Nat):(Nat.beq a b=true)=(a=b):=propext ⟨Nat.eq_of_beq_eq_true,fun h=>h▸Nat.beq_refl _⟩
theorem XC {f g:Fn} (h:fnEq f g=true):f=g:=by
 cases f <;> cases g <;> simp [fnEq,l5] at h <;> rw [h]
theorem K7 {a b:Option Addr} (h:WC a b=true):a=b:=by
 unfold WC at h
 split at h
 ·rfl
 ·simp only [Bool.and_eq_true,l5] at h
  rw [h.1,h.2]
 ·simp only [Bool.and_eq_true,l5] at h
  rw [h.1.1,h.1.2,h.2]
 ·cases h
theorem MA {a b:Option Nat} (h:V7 a b=true):a=b:=by
 unfold V7 at h
 split at h
 ·rfl
 ·simp only [l5] at h
  rw [h]
 ·cases h
theorem mB {a b:Int} (h:sQ a b=true):a=b:=by
 unfold sQ at h
 split at h
 ·simp only [l5] at h;rw [h]
 ·simp only [l5] at h;rw [h]
 ·cases h
theorem EB {a b:ByteArray} (h:(a.data.toList==b.data.toList)=true):a=b:=by
 have:=eq_of_beq h
 cases a;cases b
 simp at this
 rw [this]
mutual
theorem lY:∀ {v w:Value},T5 v w=true→v=w
 |v,w,h=>by
  unfold T5 at h
  split at h
  ·rw [eq_of_beq h]
  ·simp only [Bool.and_eq_true] at h
   rw [eq_of_beq h.1,mB h.2]
  ·rw [EB h]
  ·rw [K7 h]
  ·simp only [Bool.and_eq_true,l5] at h
   rw [K7 h.1.1,h.1.2,h.2]
  ·rw [MA h]
  ·rw [MA h]
  ·simp only [Bool.and_eq_true] at h
   rw [XC h.1.1,uJ h.1.2,uJ h.2]
  ·rfl
  ·rfl
  ·simp only [Bool.and_eq_true,l5] at h
   rw [h.1,lY h.2]
  ·rw [uJ h]
  ·rw [uJ h]
  ·cases h
theorem uJ:∀ {v w:Array Value},PO v w=true→v=w
 |⟨l⟩,⟨m⟩,h=>by
  unfold PO at h
  rw [pE h]
theorem pE:∀ {v w:List Value},tV v w=true→v=w
 | [],[],_=>rfl
 |v :: l,w :: m,h=>by
  simp only [tV,Bool.and_eq_true] at h
  rw [lY h.1,pE h.2]
 | [],_ :: _,h=>by simp [tV] at h
 |_ :: _,[],h=>by simp [tV] at h
end
theorem K3:∀ {l m:List MapEntry},MP l m=true→l=m
 | [],[],_=>rfl
 |⟨k,v,b⟩ :: l,⟨k',v',b'⟩ :: m,h=>by
  simp only [MP,Bool.and_eq_true,l5] at h
  rw [lY h.1.1.1,lY h.1.1.2,h.1.2,K3 h.2]
 | [],_ :: _,h=>by simp [MP] at h
 |_ :: _,[],h=>by simp [MP] at h
theorem X9 {x y:AO} (h:aoEq x y=true):x=y:=by
 unfold aoEq at h
 split at h
 ·simp only [Bool.and_eq_true,l5] at h
  rw [pE h.1.1,h.1.2,h.2]
 ·simp only [Bool.and_eq_true,l5] at h
  rw [K3 h.1,h.2]
 ·simp only [l5] at h
  rw [h]
 ·simp only [Bool.and_eq_true,l5] at h
  rw [EB h.1,h.2]
 ·cases h
theorem LY {x y:Option AO} (h:W9 x y=true):x=y:=by
 unfold W9 at h
 split at h
 ·rfl
 ·rw [X9 h]
 ·cases h
theorem IF:∀ {x y:T},teq x y=true→x=y
 | .nil,.nil,_=>rfl
 | .node v l r,.node w m s,h=>by
  simp only [teq,Bool.and_eq_true] at h
  rw [LY h.1.1,IF h.1.2,IF h.2]
 | .nil,.node ..,h=>by simp [teq] at h
 | .node ..,.nil,h=>by simp [teq] at h
theorem DQ:∀ {x y:Fr},I9 x y=true→x=y
 | .nil,.nil,_=>rfl
 | .node v l r,.node w m s,h=>by
  simp only [I9,Bool.and_eq_true] at h
  rw [lY h.1.1,DQ h.1.2,DQ h.2]
 | .nil,.node ..,h=>by simp [I9] at h
 | .node ..,.nil,h=>by simp [I9] at h
theorem aEq_eq {a b:A} (h:aEq a b=true):a=b:=by
 simp only [aEq,Bool.and_eq_true,l5] at h
 cases a;cases b
 simp only at h
 rw [h.1,IF h.2]
theorem sX {step:Nat→Option (Fr × A)} :∀ {rs:List Nat} {r:Fr × A},rX step rs=some r→∀ i∈rs,step i=some r
 | [],r,h=>by simp [rX] at h
 | [i],r,h=>by
  simp only [rX] at h
  intro j hj
  simp only [List.mem_singleton] at hj
  subst hj
  exact h
 |i :: k :: is,r,h=>by
  simp only [rX] at h
  split at h
  ·rename_i t a t' a' h1 h2
   split at h
   ·rename_i he
    cases h
    simp only [Bool.and_eq_true] at he
    have e1:=DQ he.1
    have e2:=aEq_eq he.2
    subst e1 e2
    intro j hj
    rcases List.mem_cons.1 hj with rfl|hj
    ·exact h1
    ·exact sX h2 j hj
   ·cases h
  ·cases h
theorem W7 {P:Program} {σ:Rn} {a:A} {w:World} (hR:Rel P σ a w) {L:jZ} {CL:CF} (hF:FR σ L CL) (h:held a L=true):Holds CL w:=by
 intro p hp
 obtain ⟨f,h1,h2,h3,h4⟩:=hF p hp
 have:=List.all_eq_true.1 h f h1
 cases hc:AZ a f.1 f.2.1 with
 |none=>rw [hc] at this;cases this
 |some v=>
  rw [hc] at this
  simp only [Bool.and_eq_true] at this
  have hv:=lY this.1
  have hsol:=this.2
  subst hv
  unfold AZ at hc
  split at hc
  ·rename_i cs e m hb
   obtain ⟨C,fr,g1,g2,_⟩:=hR.row hb h2
   obtain ⟨u,hu,hr⟩:=g2.get hc
   rw [h3,cell_of_row w p.1.block f.2.1 C e fr g1]
   rw [hr.uniq h4 hsol] at hu
   simpa using hu
  ·cases hc
abbrev LF:=List (Nat × CF)
def sE (L:LF) (w:World):Prop:=∀ x∈L,Holds x.2 w
def lL (P:Program) (ops:Array Oper) (Q:Exit→Act→World→Prop):Nat→LF→Array Bool→Act→World→Prop
 |0,L,listed,a,w=>Region.ready .any ops listed= []∧Q .normal a w
 |n+1,L,listed,a,w=>(Region.ready .any ops listed= []→Q .normal a w)∧∀ i∈Region.ready .any ops listed,wpOp P ops Q i (fun a' w'=>∃ L':LF,(∀ x∈L,kV ops i x.1=false→x∈L')∧sE L' w'∧lL P ops Q n L' (listed.setIfInBounds i true) a' w') a w
theorem vK {P:Program} {ops:Array Oper} {Q:Exit→Act→World→Prop} :∀ (n:Nat) (L:LF) (listed:Array Bool) (a:Act) (w:World),lL P ops Q n L listed a w→wpAny P .any ops Q n listed a w
 |0,_,_,_,_,h=>h
 |n+1,_,_,_,_,h=>⟨h.1,fun i hi=>wpOp_mono (fun a' w' ⟨L',_,_,h'⟩=>vK n L' _ a' w' h') (h.2 i hi)⟩
theorem tG {P:Program} {ops:Array Oper} {Q:Exit→Act→World→Prop} {L M:LF} (hs:∀ x∈M,x∈L):∀ (n:Nat) (listed:Array Bool) (a:Act) (w:World),lL P ops Q n L listed a w→lL P ops Q n M listed a w
 |0,_,_,_,h=>h
 |n+1,_,_,_,h=>⟨h.1,fun i hi=>wpOp_mono (fun a' w' ⟨L',h1,h2⟩=>⟨L',fun x hx hw=>h1 x (hs x hx) hw,h2⟩) (h.2 i hi)⟩
theorem ET {P:Program} {ops:Array Oper} {Q:Exit→Act→World→Prop} {listed:Array Bool} {a:Act} {w:World} (hr:Region.ready .any ops listed= []) (h:Q .normal a w):∀ (n:Nat) (L:LF),lL P ops Q n L listed a w
 |0,_=>⟨hr,h⟩
 |_+1,_=>⟨fun _=>h,by rw [hr];simp⟩
theorem FG {ops:Array Oper} {i j:Nat} {oj:Oper} (hj:ops[j]?=some oj) (h:∀ e∈oj.after,Region.binds .any e=true→e.on≠i):kV ops j i=false:=by
 unfold kV
 rw [hj]
 simp only []
 rw [Bool.eq_false_iff]
 intro hc
 obtain ⟨k,hk,he⟩:=Array.any_iff_exists.1 hc
 simp only [Bool.and_eq_true,l5] at he
 exact h _ (Array.getElem_mem ..) he.2.2.1 he.2.2.2
theorem BZ {P:Program} {ops:Array Oper} {Q:Exit→Act→World→Prop} {i:Nat} {oi:Oper} {v:Value} {F:CF} (hi:ops[i]?=some oi) (hsel:∀ (j:Nat) (o:Oper) cs b,ops[j]?=some o→o.op≠ .select cs b)
  (hQ:∀ c a w,Q (.panic c) (a.put oi.dst v) w→Q (.panic c) a w):
  ∀ (fuel:Nat) (L:LF) (listed:Array Bool) (a:Act) (w:World),
   (∀ j oj,ops[j]?=some oj→j≠i→listed.getD j true=false→(∀ e∈oj.after,Region.binds .any e=true→e.on≠i)→oi.apart ops oj=true)→
   i∈Region.ready .any ops listed→YieldsIf P ops (Holds F) oi v a→Holds F w→sE L w→
   lL P ops Q fuel ((i,F) :: L) (listed.setIfInBounds i true) (a.put oi.dst v) w→lL P ops Q (fuel+1) L listed a w:=by
 intro fuel
 induction fuel with
 |zero=>
  intro L listed a w _ hr hy hF hL H
  refine ⟨fun h=>(by rw [h] at hr;cases hr),fun j hj=>?_⟩
  by_cases hji:j=i
  ·subst hji;exact hy.wpOp hi hF ⟨L,fun x hx _=>hx,hL,H⟩
  ·have:=ready_mono hj hji
   rw [H.1] at this
   cases this
 |succ fuel ih=>
  intro L listed a w hfree hr hy hF hL H
  refine ⟨fun h=>(by rw [h] at hr;cases hr),fun j hj=>?_⟩
  by_cases hji:j=i
  ·subst hji;exact hy.wpOp hi hF ⟨L,fun x hx _=>hx,hL,tG (fun x hx=>List.mem_cons_of_mem _ hx) _ _ _ _ H⟩
  ·have h1:=H.2 j (ready_mono hj hji)
   obtain ⟨hjun,oj,hoj,hall⟩:=mem_ready.1 hj
   have hnot:∀ e∈oj.after,Region.binds .any e=true→e.on≠i:=fun e he hb heq=>by
    have h1:=hall e he hb
    have h0:=(mem_ready.1 hr).1
    rw [heq] at h1
    rcases Nat.lt_or_ge i listed.size with h'|h'
    ·simp [h'] at h0 h1;rw [h0] at h1;cases h1
    ·simp [Array.getElem?_eq_none h'] at h1
   have h2:=wpOp_putIf hoj (hfree j oj hoj hji hjun hnot) (fun cs b=>hsel i oi cs b hi) (fun cs b=>hsel j oj cs b hoj) hQ hy h1
   have hfree':∀ k ok,ops[k]?=some ok→k≠i→(listed.setIfInBounds j true).getD k true=false→
     (∀ e∈ok.after,Region.binds .any e=true→e.on≠i)→oi.apart ops ok=true:=fun k ok hk hki hun hno=>by
    refine hfree k ok hk hki ?_ hno
    by_cases hjk:j=k
    ·subst hjk;exact hjun
    ·rw [getD_set_ne true hjk] at hun;exact hun
   refine wpOp_mono (fun a' w' h3=>?_) h2
   obtain ⟨hy3,L',hsub,hL',H3⟩:=h3
   have hmem:(i,F)∈L':=hsub (i,F) List.mem_cons_self (FG hoj hnot)
   refine ⟨L',fun x hx hw=>hsub x (List.mem_cons_of_mem _ hx) hw,hL',ih L' (listed.setIfInBounds j true) a' w' hfree' (ready_mono hr (Ne.symm hji)) hy3 (hL' _ hmem) hL' ?_⟩
   rw [Array.setIfInBounds_comm _ _ hji]
   exact tG (fun x hx=>by
    rcases List.mem_cons.1 hx with rfl|hx
    ·exact hmem
    ·exact hx) _ _ _ _ H3
theorem D7 {P:Program} {ops:Array Oper} {Q:Exit→Act→World→Prop} {i:Nat} {oi:Oper} {v:Value} {F:CF} {fuel:Nat} {L:LF} {listed:Array Bool} {a:Act} {w:World} (hi:ops[i]?=some oi)
  (hs:Region.noSelect ops=true) (hf:Region.free .any ops listed i=true) (hr:i∈Region.ready .any ops listed)
  (hQ:∀ c a w,Q (.panic c) (a.put oi.dst v) w→Q (.panic c) a w) (hy:YieldsIf P ops (Holds F) oi v a) (hF:Holds F w) (hL:sE L w)
  (h:lL P ops Q fuel ((i,F) :: L) (listed.setIfInBounds i true) (a.put oi.dst v) w):lL P ops Q (fuel+1) L listed a w:=
 BZ hi (Region.noSelect_spec hs) hQ fuel L listed a w (Region.free_spec hi hf) hr hy hF hL h
def FRL (ρ:Rn) (L:List (Nat × jZ)) (CL:LF):Prop:=∀ x∈CL,∃ fs,(x.1,fs)∈L∧FR ρ fs x.2
theorem mZ {ops:Array Oper} {i:Nat} {a:A} :∀ {L M:List (Nat × jZ)},KX ops i a L=some M→∀ x∈L,kV ops i x.1=false→x∈M∧held a x.2=true
 | [],M,h,x,hx,_=>by cases hx
 |y :: L,M,h,x,hx,hw=>by
  have h2:(bif held a y.2 then (match KX ops i a L with|some r=>some (y :: r)|none=>none) else bif kV ops i y.1 then KX ops i a L else none)=some M:=h
  cases hh:held a y.2 with
  |true=>
   rw [hh,cond_true] at h2
   split at h2
   ·rename_i r hr
    cases h2
    rcases List.mem_cons.1 hx with rfl|hx
    ·exact ⟨List.mem_cons_self,hh⟩
    ·have:=mZ hr x hx hw
     exact ⟨List.mem_cons_of_mem _ this.1,this.2⟩
   ·cases h2
  |false=>
   rw [hh,cond_false] at h2
   cases hq:kV ops i y.1 with
   |true=>
    rw [hq,cond_true] at h2
    rcases List.mem_cons.1 hx with rfl|hx
    ·rw [hw] at hq;cases hq
    ·exact mZ h2 x hx hw
   |false=>rw [hq] at h2;cases h2
theorem QO (m i:Nat):Nat.beq (Nat.land m (2 ^ i)) 0=!m.testBit i:=by
 show Nat.beq (m&&& 2 ^ i) 0=_
 cases hb:m.testBit i with
 |false=>
  have h:m&&& 2 ^ i=0:=Nat.eq_of_testBit_eq fun j=>by
   rw [Nat.testBit_and,Nat.testBit_two_pow,Nat.zero_testBit]
   by_cases he:i=j
   ·subst he
    rw [hb]
    rfl
   ·simp [he]
  rw [h]
  rfl
 |true=>
  cases hq:Nat.beq (m&&& 2 ^ i) 0 with
  |false=>rfl
  |true=>
   have h:=congrArg (fun x=>Nat.testBit x i) (Nat.eq_of_beq_eq_true hq)
   simp [Nat.testBit_and,hb] at h
theorem within_iff {b m:Nat} :within b m=true↔ ∀ j,b.testBit j=true→m.testBit j=true:=by
 unfold within
 rw [l5]
 show b&&& m=b↔_
 constructor
 ·intro h j hb
  have h2:=congrArg (fun x=>Nat.testBit x j) h
  simpa [Nat.testBit_and,hb] using h2
 ·intro h
  refine Nat.eq_of_testBit_eq fun j=>?_
  rw [Nat.testBit_and]
  cases hb:b.testBit j with
  |false=>rfl
  |true=>rw [h j hb];rfl
theorem mE {α:Type} (f:α→Bool) (g:α→Nat) (j:Nat):∀ l:List α,(l.foldr (fun e k=>bif f e then Nat.lor k (2 ^ g e) else k) 0).testBit j=true↔ ∃ e∈l,f e=true∧g e=j
 | []=>by simp
 |e :: l=>by
  rw [List.foldr_cons]
  cases hf:f e with
  |false=>
   rw [cond_false,mE f g j l]
   simp [hf]
  |true=>
   rw [cond_true]
   show ((l.foldr (fun e k=>bif f e then Nat.lor k (2 ^ g e) else k) 0) |||2 ^ g e).testBit j=true↔_
   rw [Nat.testBit_or,Bool.or_eq_true,mE f g j l,Nat.testBit_two_pow]
   simp [hf,or_comm]
structure kP (n:Nat) (listed:Array Bool) (m:Nat):Prop where
 size:listed.size=n
 bit:∀ j,m.testBit j=listed.getD j false
theorem kP.start (n:Nat):kP n (Array.replicate n false) 0:=⟨by simp,fun j=>by
 rw [Nat.zero_testBit]
 by_cases h:j<n
 ·simp [h]
 ·simp [h]⟩
theorem kP.set {n:Nat} {listed:Array Bool} {m:Nat} (h:kP n listed m) {i:Nat} (hi:i<n):kP n (listed.setIfInBounds i true) (Nat.lor m (2 ^ i)):=⟨by simp [h.size],fun j=>by
 show (m |||2 ^ i).testBit j=_
 rw [Nat.testBit_or,h.bit,Nat.testBit_two_pow]
 by_cases he:i=j
 ·subst he
  simp [h.size,hi]
 ·simp [he,Array.getElem?_setIfInBounds_ne he]⟩
theorem kP.get {n:Nat} {listed:Array Bool} {m:Nat} (h:kP n listed m) {i:Nat} (hi:i<n):listed.getD i true=m.testBit i:=by
 rw [h.bit]
 have:i<listed.size:=by rw [h.size];exact hi
 simp [this]
theorem rK {ops:Array Oper} {listed:Array Bool} {m:Nat} (h:kP ops.size listed m) {i:Nat} :i∈PG ops m↔i∈Region.ready .any ops listed:=by
 unfold PG
 rw [mem_ready,List.mem_filter,List.mem_range,Bool.and_eq_true,QO,within_iff]
 constructor
 ·rintro ⟨hlt,h1,h2⟩
  refine ⟨by rw [h.get hlt];simpa using h1,ops[i],Array.getElem?_eq_getElem hlt,fun e he hb=>?_⟩
  rw [← h.bit]
  refine h2 e.on ?_
  unfold bm
  rw [Array.getElem?_eq_getElem hlt]
  exact (mE _ _ _ _).2 ⟨e,by simpa using he,hb,rfl⟩
 ·rintro ⟨h1,o,ho,h2⟩
  have hlt:i<ops.size:=(Array.getElem?_eq_some_iff.1 ho).1
  refine ⟨hlt,by rw [← h.get hlt,h1];rfl,fun j hj=>?_⟩
  unfold bm at hj
  rw [ho] at hj
  obtain ⟨e,he,hb,rfl⟩:=(mE _ _ _ _).1 hj
  rw [h.bit]
  exact h2 e (by simpa using he) hb
theorem QG {ops:Array Oper} {listed:Array Bool} {m:Nat} (h:kP ops.size listed m) {i:Nat} (hf:FD ops m i=true):Region.free .any ops listed i=true:=by
 unfold FD at hf
 unfold Region.free
 cases ho:ops[i]? with
 |none=>rw [ho] at hf;cases hf
 |some oi=>
  rw [ho] at hf
  simp only [] at hf ⊢
  rw [within_iff] at hf
  rw [List.all_eq_true]
  intro j hj
  have hlt:=List.mem_range.1 hj
  have h1:=hf j (by rw [Nat.testBit_two_pow_sub_one];simpa using hlt)
  change (m |||am ops i).testBit j=true at h1
  rw [Nat.testBit_or,Bool.or_eq_true] at h1
  rcases h1 with h1|h1
  ·rw [h.get hlt,h1]
   simp
  ·unfold am at h1
   rw [ho] at h1
   obtain ⟨k,hk,hc,rfl⟩:=(mE _ _ _ _).1 h1
   unfold clear at hc
   simp only [Bool.or_eq_true] at hc ⊢
   rcases hc with hc|hc
   ·exact .inl (.inl hc)
   ·exact .inr hc
theorem qO {P:Program} {ops:Array Oper} {bad:List Nat} {m:Nat} {t:Fr} {a:A} :∀ {rs:List Nat} {i:Nat} {o:Oper} {v:Value} {fs:jZ},kC P ops bad m t a rs=some (i,o,v,fs)→
  i∈rs∧ops[i]?=some o∧FD ops m i=true∧((wanted ops o t=false∧v=undef∧fs= [])∨(wanted ops o t=true∧(op P o t a=some (.pu v)∧fs= []∨op P o t a=some (.rd v fs))))
 | [],i,o,v,fs,h=>by simp [kC] at h
 |k :: rs,i,o,v,fs,h=>by
  unfold kC at h
  have ih:∀ {i o v fs},kC P ops bad m t a rs=some (i,o,v,fs)→i∈k :: rs∧ops[i]?=some o∧FD ops m i=true∧((wanted ops o t=false∧v=undef∧fs= [])∨(wanted ops o t=true∧(op P o t a=some (.pu v)∧fs= []∨op P o t a=some (.rd v fs)))):=fun h=>by
   have:=qO h
   exact ⟨List.mem_cons_of_mem _ this.1,this.2⟩
  split at h
  ·cases h
  ·rename_i ok hk
   split at h
   ·exact ih h
   ·rename_i hf
    split at h
    ·rename_i hw
     cases h
     exact ⟨List.mem_cons_self,hk,hf,.inl ⟨hw,rfl,rfl⟩⟩
    ·rename_i hw
     split at h
     ·rename_i u hu
      cases h
      exact ⟨List.mem_cons_self,hk,hf,.inr ⟨hw,.inl ⟨hu,rfl⟩⟩⟩
     ·rename_i u gs hu
      split at h
      ·exact ih h
      ·cases h
       exact ⟨List.mem_cons_self,hk,hf,.inr ⟨hw,.inr hu⟩⟩
     ·exact ih h
structure Std (P:Program) (G:Nat) (D:List Deferred) (ops:Array Oper) (base:Nat) (ρ0:Rn) (a0:A) (w0:World) (ρ:Rn) (listed:Array Bool) (t:Fr) (a:A) (c:Act) (w:World):Prop where
 sta:yA P G D ρ t a c w
 step:St P (fun b=>base≤b) ρ0 a0 w0 ρ a w
 le:base+ops.size≤a.next
 un:∀ i,i<ops.size→listed.getD i true=false→ρ.bI (base+i)=none
 base0:D6 ρ0 base
theorem oG {listed:Array Bool} {i j:Nat} (h:(listed.setIfInBounds i true).getD j true=false):j≠i∧listed.getD j true=false:=by
 by_cases he:i=j
 ·subst he
  exfalso
  by_cases hlt:i<listed.size
  ·simp [hlt] at h
  ·simp [hlt] at h
 ·exact ⟨fun e=>he e.symm,by simpa [Array.getElem?_setIfInBounds_ne he] using h⟩
theorem Std.quiet {P:Program} {G:Nat} {D:List Deferred} {ops:Array Oper} {base:Nat} {ρ0 ρ:Rn} {a0 a:A} {w0 w:World} {listed:Array Bool} {t:Fr} {c:Act} (h:Std P G D ops base ρ0 a0 w0 ρ listed t a c w) {v cv:Value} (hv:VR ρ v cv) (i:Nat) (d:Option Tmp):
  Std P G D ops base ρ0 a0 w0 ρ (listed.setIfInBounds i true) (pL t d v) a (c.put d cv) w:=
 ⟨h.sta.act hv (St.refl h.sta.rel) h.sta.new d,h.step,h.le,fun j hj hl=>h.un j hj (oG hl).2,h.base0⟩
theorem qX {P:Program} {ρ:Rn} {a:A} {w:World} (h:Rel P ρ a w) (n:Nat):Rel P ρ ⟨n,a.t⟩ w:=⟨h.obj,h.inj⟩
theorem X5 {P:Program} {N:Nat→Prop} {ρ σ:Rn} {a a':A} {w w':World} {n m:Nat} (h:St P N ρ ⟨n,a.t⟩ w σ a' w'):St P N ρ a w σ ⟨m,a'.t⟩ w':=⟨h.ext,qX h.rel m,h.md,h.own,h.names⟩
theorem NM {P:Program} {G:Nat} {D:List Deferred} {call:Callee} (hc:bV P G call) {ops:Array Oper} (hok:∀ o∈ops.toList,J9 G o=true) {base:Nat} {ρ0 ρ:Rn} {a0 a a':A} {w0 w:World} {listed:Array Bool} {t t':Fr} {c:Act} (h:Std P G D ops base ρ0 a0 w0 ρ listed t a c w)
  {i:Nat} (hi:i<ops.size) (hl:listed.getD i true=false) (ha:CA P call ops base i t a=some (t',a')) {K:Act→World→Prop} {Q:Exit→Act→World→Prop}
  (hK:∀ σ c' w',ρ.le σ→Std P G D ops base ρ0 a0 w0 σ (listed.setIfInBounds i true) t' a' c' w'→K c' w'):wpOp P ops Q i K c w:=by
 unfold CA at ha
 cases ho:ops[i]? with
 |none=>rw [ho] at ha;cases ha
 |some o=>
  rw [ho] at ha
  simp only [] at ha
  unfold wpOp
  rw [ho]
  simp only []
  have hmem:o∈ops.toList:=by
   have:=Array.mem_of_getElem? ho
   simpa using this
  have rfl':ρ.le ρ:=fun b c hb=>⟨hb,rfl⟩
  rw [kI h.sta.tr] at ha
  split at ha
  ·rename_i hw
   cases ha
   rw [if_neg (by rw [hw];simp)]
   exact hK ρ _ w rfl' (h.quiet .undef i o.dst)
  ·rename_i hw
   rw [if_pos hw]
   refine .inl ?_
   have hop:=fun r (hr:op P o t ⟨base+i,a.t⟩=some r)=>LG (qX h.sta.rel (base+i)) (h.un i hi hl) (OZ h.sta.gl (hok o hmem) h.sta.tr) hr
   split at ha
   ·rename_i v hr
    cases ha
    exact (hop _ hr).pu_wp fun cv hv=>hK ρ _ w rfl' (h.quiet hv i o.dst)
   ·rename_i v fs hr
    cases ha
    exact (hop _ hr).ZU fun cv hv=>hK ρ _ w rfl' (h.quiet hv i o.dst)
   ·rename_i v a1 hr
    simp only [Option.some.injEq,Prod.mk.injEq] at ha
    obtain ⟨rfl,rfl⟩:=ha
    refine (hop _ hr).RB fun cv w' σ hv hs hn=>?_
    have hs2:St P (fun b=>b=base+i) ρ a w σ ⟨a.next,a1.t⟩ w':=X5 hs
    have hle:ρ.le σ:=hs2.le (fun b hb=>by rw [hb];exact h.un i hi hl)
    refine hK σ _ w' hle ⟨⟨hs2.rel,fun b hb=>?_,h.sta.gl.ext hle,(h.sta.tr.mono hle).put hv o.dst,by cases o.dst <;> exact h.sta.df⟩,h.step.trans (hs2.wide fun b hb=>by rw [hb];omega),h.le,fun j hj hlj=>?_,h.base0⟩
    ·have h1:=h.le
     rw [(hs2.ext b (by show ¬ b=base+i;simp only at hb;omega)).1]
     exact h.sta.new b hb
    ·obtain ⟨hne,hlj'⟩:=oG hlj
     rw [(hs2.ext (base+j) (by show ¬ base+j=base+i;omega)).1]
     exact h.un j hj hlj'
   ·rename_i f args hr
    refine (hop _ hr).cl_wp fun cargs hlr=>?_
    split at ha
    ·rename_i v a1 hcl
     cases ha
     refine (hc f args a v _ hcl ρ w cargs h.sta.rel h.sta.new h.sta.gl hlr).mono ?_
     rintro e w' ⟨cv,σ,rfl,hv,hs,n1,n2⟩
     have hle:ρ.le σ:=hs.le h.sta.new
     have hb:=h.le
     refine ⟨cv,rfl,hK σ _ w' hle ⟨h.sta.act hv hs n1 o.dst,h.step.trans (hs.wide fun b hb'=>by omega),by omega,fun j hj hlj=>?_,h.base0⟩⟩
     rw [(hs.ext (base+j) (by omega)).1]
     exact h.un j hj (oG hlj).2
    ·cases ha
   ·cases ha
theorem LL {P:Program} {G:Nat} {D:List Deferred} {call:Callee} (hc:bV P G call) {ops:Array Oper} (hok:∀ o∈ops.toList,J9 G o=true) (hsel:Region.noSelect ops=true) {base:Nat} (bad:List Nat) {ρ0:Rn} {a0:A} {w0:World} {Q:Exit→Act→World→Prop} (hQ0:∀ ch c w,¬ Q (.panic ch) c w) {t':Fr} {a':A} :
  ∀ (n:Nat) {listed:Array Bool} {m:Nat} {ρ:Rn} {t:Fr} {a:A} {c:Act} {w:World} {L:List (Nat × jZ)} {CL:LF},kP ops.size listed m→Std P G D ops base ρ0 a0 w0 ρ listed t a c w→FRL ρ L CL→sE CL w→ND P call ops base bad n m t a L=some (t',a')→
   (∀ σ c' w',yA P G D σ t' a' c' w'→St P (fun b=>base≤b) ρ0 a0 w0 σ a' w'→base≤a'.next→Q .normal c' w')→lL P ops Q n CL listed c w
 |0,listed,m,ρ,t,a,c,w,L,CL,hm,h,hF,hH,ha,hQ=>by
  unfold ND at ha
  split at ha
  ·rename_i hr
   cases ha
   have hr':Region.ready .any ops listed= []:=List.eq_nil_iff_forall_not_mem.2 fun i hi=>by
    have:=(rK hm).2 hi
    rw [hr] at this
    cases this
   exact ⟨hr',hQ ρ c w h.sta h.step (by have:=h.le;omega)⟩
  ·cases ha
 |n+1,listed,m,ρ,t,a,c,w,L,CL,hm,h,hF,hH,ha,hQ=>by
  have ih:= @LL P G D call hc ops hok hsel base bad ρ0 a0 w0 Q hQ0 t' a' n
  unfold ND at ha
  generalize hrs:PG ops m=rs at ha
  have hall:∀ i∈Region.ready .any ops listed,i∈rs:=fun i hi=>hrs▸(rK hm).2 hi
  cases rs with
  |nil=>
   cases ha
   exact ET (List.eq_nil_iff_forall_not_mem.2 fun i hi=>by cases hall i hi) (hQ ρ c w h.sta h.step (by have:=h.le;omega)) _ _
  |cons r0 rs0=>
   simp only [] at ha
   split at ha
   ·rename_i i o v fs htk
    obtain ⟨hmi,hio,hfree,hcase⟩:=qO htk
    have hlt:i<ops.size:=(Array.getElem?_eq_some_iff.1 hio).1
    have hmo:o∈ops.toList:=by
     have:=Array.mem_of_getElem? hio
     simpa using this
    -- what it yields
    have hy:∃ cv CF',VR ρ v cv∧FR ρ fs CF'∧Holds CF' w∧YieldsIf P ops (Holds CF') o cv c:=by
     rcases hcase with ⟨hw,rfl,rfl⟩|⟨hw,hcase⟩
     ·exact ⟨undef,[],.undef,(fun p hp=>by cases hp),(fun p hp=>by cases hp),.inr ⟨by rw [← kI h.sta.tr];exact hw,rfl⟩⟩
     ·have hop:=fun r (hr:op P o t a=some r)=>LG h.sta.rel (h.sta.new a.next (Nat.le_refl _)) (OZ h.sta.gl (hok o hmo) h.sta.tr) hr
      rcases hcase with ⟨hr,rfl⟩|hr
      ·obtain ⟨cv,h1,h2⟩:=hop _ hr
       exact ⟨cv,[],h1,(fun p hp=>by cases hp),(fun p hp=>by cases hp),.inl ⟨by rw [← kI h.sta.tr];exact hw,fun w' _=>h2 w'⟩⟩
      ·obtain ⟨cv,L',h1,h2,h3,h4⟩:=hop _ hr
       exact ⟨cv,L',h1,h2,h3,.inl ⟨by rw [← kI h.sta.tr];exact hw,fun w' hw'=>h4 w' hw'⟩⟩
    obtain ⟨cv,CF',v1,v2,v3,v4⟩:=hy
    have hL2:sE ((i,CF') :: CL) w:=fun x hx=>by
     rcases List.mem_cons.1 hx with rfl|hx
     ·exact v3
     ·exact hH x hx
    have hF2:FRL ρ ((i,fs) :: L) ((i,CF') :: CL):=fun x hx=>by
     rcases List.mem_cons.1 hx with rfl|hx
     ·exact ⟨fs,List.mem_cons_self,v2⟩
     ·obtain ⟨gs,g1,g2⟩:=hF x hx
      exact ⟨gs,List.mem_cons_of_mem _ g1,g2⟩
    exact D7 (v:=cv) hio hsel (QG hm hfree) ((rK hm).1 (by rw [hrs];exact hmi)) (fun ch c' w' hq=>absurd hq (hQ0 ch _ w')) v4 v3 hH (ih (hm.set hlt) (h.quiet v1 i o.dst) hF2 hL2 ha hQ)
   ·rename_i htk
    refine ⟨fun h0=>?_,fun i hi=>?_⟩
    ·have h1:r0∈Region.ready .any ops listed:=(rK hm).1 (by rw [hrs];exact List.mem_cons_self)
     rw [h0] at h1
     cases h1
    ·have hs:=sX ha i (hall i hi)
     split at hs
     ·rename_i t1 a1 hone
      split at hs
      ·rename_i L2 hkeep
       obtain ⟨hun,o,hio,_⟩:=mem_ready.1 hi
       have hlt:i<ops.size:=(Array.getElem?_eq_some_iff.1 hio).1
       refine NM hc hok h hlt hun hone fun σ c' w' hle hst=>?_
       have hF2:FRL σ L2 (CL.filter fun x=>!kV ops i x.1):=fun x hx=>by
        obtain ⟨h1,h2⟩:=List.mem_filter.1 hx
        obtain ⟨fs,g1,g2⟩:=hF x h1
        exact ⟨fs,(mZ hkeep _ g1 (by simpa using h2)).1,g2.mono hle⟩
       have hH2:sE (CL.filter fun x=>!kV ops i x.1) w':=fun x hx=>by
        obtain ⟨h1,h2⟩:=List.mem_filter.1 hx
        obtain ⟨fs,g1,g2⟩:=hF x h1
        exact W7 hst.sta.rel (g2.mono hle) (mZ hkeep _ g1 (by simpa using h2)).2
       exact ⟨_,fun x hx hw=>List.mem_filter.2 ⟨hx,by simp [hw]⟩,hH2,ih (hm.set hlt) hst hF2 hH2 hs hQ⟩
      ·cases hs
     ·cases hs
end Go.Proofs.YtjopodnlffaogaaGreatDoor.Abs
end
