/- A part of the proof of TopSame: TpAbs18, TpAbs19, TpAbs20, TpTexts, TpSteady, TpSteady2, TpMem, TpStr, TpPool, TpCores, TpPermit, TpPark, TpExec0. -/
import Derived.Test.YtjopodnlffaogaaGreatDoorSL0
import Derived.Carry
set_option linter.unusedVariables false
set_option linter.unusedSimpArgs false
set_option maxRecDepth 100000
set_option maxHeartbeats 4000000
section
namespace Go.Proofs.YtjopodnlffaogaaGreatDoor.Abs
open Go.RowKit
def uP (ops:Array Oper):Bool:=ops.all fun o=>match o.op with
 | .defer _=>false
 |_=>true
theorem Q1 {ops:Array Oper} (h:uP ops=true) {o:Oper} (ho:o∈ops.toList):∀ c,o.op≠ .defer c:=by
 intro c hc
 have:=Array.all_eq_true_iff_forall_mem.1 h o (by simpa using ho)
 rw [hc] at this
 cases this
noncomputable def nK (P:Program) (call:Callee) (c:Code):C:=
 Code.rec (motive:=fun _=>C) (fun t a=>some (.normal,t,a)) (fun _ ops draw=>bif draw || !uP ops then fun _ _=>none else nG P call ops false) (fun _ _ x y=>wW x y) (fun c _ _ x y=>z7 c x y) (fun id _ x=>rS id x)
  (fun _ _ _ _=>none) (fun _ _ _ _ _ _ _ _=>none) (fun id t a=>some (.exit id,t,a)) (fun _ _ _ _=>none) (fun _ t a=>none) (fun _ _ _=>none) (fun t a=>none) (fun _ _ _=>none) c
section
variable {P:Program} {l n:Nat} {ρ:Rn} {a:A} {w:World} {o:Oper} {c:Act} {K:Act→World→Prop} {Q:Exit→Act→World→Prop}
theorem rD {v:Value} {w':World} (hd:∀ c,o.op≠ .defer c) (h:(execOp c.eval o).run P w= .ok (.value v) w') (hK:K (c.put o.dst v) w'):o.wpIn (Fence.wide.inRound l) n P c w K Q:=by
 refine ⟨fun _ _=>trivial,?_⟩
 show o.uponIn _ n P c K Q ((Oper.semAt (some l) c.eval o).run P w)
 rw [Oper.semAt_some l c.eval o hd,h]
 exact hK
theorem WX {w':World} (hd:∀ c,o.op≠ .defer c) (h:(execOp c.eval o).run P w= .ok .skip w') (hK:K (c.put o.dst undef) w'):o.wpIn (Fence.wide.inRound l) n P c w K Q:=by
 refine ⟨fun _ _=>trivial,?_⟩
 show o.uponIn _ n P c K Q ((Oper.semAt (some l) c.eval o).run P w)
 rw [Oper.semAt_some l c.eval o hd,h]
 exact hK
theorem wN.pu_in {v:Value} (hd:∀ c,o.op≠ .defer c) (h:wN P ρ a w (execOp c.eval o) (.pu v)) (hK:∀ cv,VR ρ v cv→K (c.put o.dst cv) w):o.wpIn (Fence.wide.inRound l) n P c w K Q:=by
 obtain ⟨cv,h1,h2⟩:=h
 exact rD hd (h2 w) (hK cv h1)
theorem wN.rd_in {v:Value} {fs:jZ} (hd:∀ c,o.op≠ .defer c) (h:wN P ρ a w (execOp c.eval o) (.rd v fs)) (hK:∀ cv,VR ρ v cv→K (c.put o.dst cv) w):o.wpIn (Fence.wide.inRound l) n P c w K Q:=by
 obtain ⟨cv,L,h1,h2,h3,h4⟩:=h
 exact rD hd (h4 w h3) (hK cv h1)
theorem wN.act_in {v:Value} {a':A} (hd:∀ c,o.op≠ .defer c) (h:wN P ρ a w (execOp c.eval o) (.act v a')) (hK:∀ cv w' σ,VR σ v cv→St P (fun b=>b=a.next) ρ a w σ a' w'→(a'.next=a.next∧σ=ρ∨a'.next=a.next+1)→K (c.put o.dst cv) w'):o.wpIn (Fence.wide.inRound l) n P c w K Q:=by
 obtain ⟨n,cv,w',σ,h1,h2,h3,h4,h5⟩:=h
 rcases h2 with rfl|⟨rfl,rfl⟩
 ·exact rD hd h1 (hK cv w' σ h3 h4 h5)
 ·exact WX hd h1 (hK _ w' σ h3 h4 h5)
theorem wN.cl_in {f:FuncId} {args:List Value} (hd:∀ c,o.op≠ .defer c) (h:wN P ρ a w (execOp c.eval o) (.cl f args)) (hK:∀ cargs:Array Value,LR ρ args cargs.toList→Calls P f cargs w fun e w'=>∃ cv,e= .returned cv∧K (c.put o.dst cv) w'):o.wpIn (Fence.wide.inRound l) n P c w K Q:=by
 obtain ⟨cargs,h1,h2⟩:=h
 refine ⟨fun _ _=>trivial,?_⟩
 show o.uponIn _ n P c K Q ((Oper.semAt (some l) c.eval o).run P w)
 rw [Oper.semAt_some l c.eval o hd,h2 w]
 rw [Oper.uponIn_enter]
 refine ⟨fun h=>Bool.noConfusion (show false=true from h),?_⟩
 have hk:CallsIn Fence.wide (n - 1) P f cargs w fun e w'=>∃ cv,e= .returned cv∧K (c.put o.dst cv) w':=callsIn_wide.2 (hK cargs h1)
 refine CallsIn.mono (CallsIn.inRound l hk) ?_
 rintro e w' ⟨cv,he,hk⟩
 subst he
 exact hk
end
section
variable {P:Program} {G:Nat} {D:List Deferred} {call:Callee} {l n:Nat}
theorem ME (hc:bV P G call) (all:Array Oper) {Q:Exit→Act→World→Prop} :∀ (ops:List Oper),(∀ o∈ops,J9 G o=true∧∀ c,o.op≠ .defer c)→∀ {ρ:Rn} {t t':Fr} {a a':A} {c:Act} {w:World},yA P G D ρ t a c w→IG P call all ops t a=some (t',a')→
  (∀ σ c' w',yA P G D σ t' a' c' w'→St P (fun b=>a.next≤b) ρ a w σ a' w'→a.next≤a'.next→Q .normal c' w')→wpListIn (Fence.wide.inRound l) n P all Q ops c w
 | [],_,ρ,t,t',a,a',c,w,hS,h,hQ=>by
  rw [FH] at h
  cases h
  exact hQ ρ c w hS (St.refl hS.rel) (Nat.le_refl _)
 |o :: ops,hol,ρ,t,t',a,a',c,w,hS,h,hQ=>by
  rw [BA,kI hS.tr] at h
  have ih:= @ME hc all Q ops (fun o ho=>hol o (List.mem_cons_of_mem _ ho))
  cases hw:Region.wanted o (yielded all c.tmps)
  ·rw [hw,cond_false] at h
   unfold wpListIn
   rw [if_neg (by rw [hw];simp)]
   exact ⟨fun _ _=>trivial,ih (hS.act .undef (St.refl hS.rel) hS.new o.dst) h hQ⟩
  ·rw [hw,cond_true] at h
   unfold wpListIn
   rw [if_pos hw]
   have hop:=fun r (hr:op P o t a=some r)=>LG hS.rel (hS.new a.next (Nat.le_refl _)) (OZ hS.gl (hol o List.mem_cons_self).1 hS.tr) hr
   unfold step1 at h
   split at h
   ·rename_i v hr
    exact (hop _ hr).pu_in (hol o List.mem_cons_self).2 fun cv hv=>ih (hS.act hv (St.refl hS.rel) hS.new o.dst) h hQ
   ·rename_i v fs hr
    exact (hop _ hr).rd_in (hol o List.mem_cons_self).2 fun cv hv=>ih (hS.act hv (St.refl hS.rel) hS.new o.dst) h hQ
   ·rename_i v a1 hr
    refine (hop _ hr).act_in (hol o List.mem_cons_self).2 fun cv w' σ hv hs hn=>?_
    obtain ⟨n1,n2⟩:=F3 hS.new hs hn
    have hs':=hs.wide (M:=fun b=>a.next≤b) (fun b hb=>by rw [hb];exact Nat.le_refl _)
    exact ih (hS.act hv hs' n1 o.dst) h fun τ c' w'' k1 k2 k3=>hQ τ c' w'' k1 (hs'.trans (k2.wide fun b hb=>Nat.le_trans n2 hb)) (Nat.le_trans n2 k3)
   ·rename_i f args hr
    refine (hop _ hr).cl_in (hol o List.mem_cons_self).2 fun cargs hl=>?_
    split at h
    ·rename_i v a1 hcl
     refine (hc f args a v a1 hcl ρ w cargs hS.rel hS.new hS.gl hl).mono ?_
     rintro e w' ⟨cv,σ,rfl,hv,hs,n1,n2⟩
     exact ⟨cv,rfl,ih (hS.act hv hs n1 o.dst) h fun τ c' w'' k1 k2 k3=>hQ τ c' w'' k1 (hs.trans (k2.wide fun b hb=>Nat.le_trans n2 hb)) (Nat.le_trans n2 k3)⟩
    ·cases h
   ·cases h
def lX (P:Program) (G:Nat) (D:List Deferred) (l n:Nat) (cd:Code) (x:C):Prop:=∀ {t t':Fr} {a a':A} {e:Ex} {ρ:Rn} {c:Act} {w:World},x t a=some (e,t',a')→yA P G D ρ t a c w→cd.wpIn (Fence.wide.inRound l) n P (Po P G D ρ a w e t' a') c w
theorem KA (hc:bV P G call) {id:Nat} {ops:Array Oper} (hok1:(ops.all fun o=>o.op.operands.all (N7 G))=true):lX P G D l n (.region id ops false) (nK P call (.region id ops false)):=by
 intro t t' a a' e ρ c w h hS
 change (bif false || !uP ops then fun _ _=>none else nG P call ops false:C) t a=_ at h
 cases hnd:uP ops with
 |false=>rw [hnd] at h;cases h
 |true=>
 rw [hnd] at h
 have hok':∀ o∈ops.toList,J9 G o=true∧∀ c,o.op≠ .defer c:=fun o ho=>⟨Array.all_eq_true_iff_forall_mem.1 hok1 o (by simpa using ho),Q1 hnd ho⟩
 change nG P call ops false t a=_ at h
 unfold nG at h
 rw [cond_false] at h
 split at h
 ·rename_i t1 a1 h1
  cases h
  exact wpIn_region_list (ME hc ops ops.toList hok' hS h1 fun σ c' w' k1 k2 k3=>⟨rfl,σ,k1,k2,k3⟩)
 ·cases h
theorem XP {x y:Code} {cx cy:C} (hx:lX P G D l n x cx) (hy:lX P G D l n y cy):lX P G D l n (.seq x y) (wW cx cy):=by
 intro t t' a a' e ρ c w h hS
 unfold wW at h
 split at h
 ·rename_i t1 a1 h1
  refine wpIn_seq (Go.wpIn_mono (hx h1 hS) ?_)
  rintro E c1 w1 ⟨rfl,σ,k1,k2,k3⟩
  exact Go.wpIn_mono (hy h k1) fun E c2 w2 hp=>Po.trans k2 k3 hp
 ·rename_i hne
  refine wpIn_seq (Go.wpIn_mono (hx h hS) ?_)
  rintro E c1 w1 ⟨rfl,hp⟩
  cases e with
  |normal=>exact absurd h (hne _ _)
  |exit id=>exact ⟨rfl,hp⟩
  |ret=>exact ⟨rfl,hp⟩
theorem U8 {cnd:Operand} {x y:Code} {cx cy:C} (hx:lX P G D l n x cx) (hy:lX P G D l n y cy) (hg:N7 G cnd=true):lX P G D l n (.cond cnd x y) (z7 cnd cx cy):=by
 intro t t' a a' e ρ c w h hS
 have hv:VR ρ (ev t cnd) (c.eval cnd):=by
  cases cnd with
  |tmp i=>exact hS.tr.get i
  |const v=>exact VR.flat (v:=v) (by simpa [N7] using hg)
  |global g=>exact .ptr (hS.gl g (by simpa [N7,Nat.blt_eq] using hg))
  |func f=>exact .flat rfl
 unfold z7 at h
 split at h
 ·rename_i hb
  rw [hb] at hv
  exact wpIn_cond_true hv.jR (hx h hS)
 ·rename_i hb
  rw [hb] at hv
  exact wpIn_cond_false hv.jR (hy h hS)
 ·cases h
theorem O2 {id:Nat} {x:Code} {cx:C} (hx:lX P G D l n x cx):lX P G D l n (.block id x) (rS id cx):=by
 intro t t' a a' e ρ c w h hS
 unfold rS at h
 split at h
 ·rename_i id' t1 a1 h1
  split at h
  ·rename_i hid
   cases h
   refine wpIn_block (Go.wpIn_mono (hx h1 hS) ?_)
   rintro E c1 w1 ⟨rfl,hp⟩
   have:=Nat.eq_of_beq_eq_true hid
   show Exit.inBlock id _ (.exit id') c1 w1
   simp only [Exit.inBlock,if_pos this]
   exact ⟨rfl,hp⟩
  ·rename_i hid
   cases h
   refine wpIn_block (Go.wpIn_mono (hx h1 hS) ?_)
   rintro E c1 w1 ⟨rfl,hp⟩
   have hne:¬ id'=id:=fun e=>by rw [e,Nat.beq_refl] at hid;cases hid
   show Exit.inBlock id _ (.exit id') c1 w1
   simp only [Exit.inBlock,if_neg hne]
   exact ⟨rfl,hp⟩
 ·rename_i hne
  refine wpIn_block (Go.wpIn_mono (hx h hS) ?_)
  rintro E c1 w1 ⟨rfl,hp⟩
  cases e with
  |normal=>exact ⟨rfl,hp⟩
  |exit id=>exact absurd h (hne _ _ _)
  |ret=>exact ⟨rfl,hp⟩
theorem mA (hc:bV P G call):∀ (cd:Code),codeOk G cd=true→lX P G D l n cd (nK P call cd)
 | .skip,_=>fun h hS=>by
  cases h
  exact wpIn_skip ⟨rfl,_,hS,St.refl hS.rel,Nat.le_refl _⟩
 | .region id ops true,hok=>fun h hS=>by cases h
 | .region id ops false,hok=>KA hc (by simpa only [codeOk] using hok)
 | .seq x y,hok=>by
  simp only [codeOk,Bool.and_eq_true] at hok
  exact XP (mA hc x hok.1) (mA hc y hok.2)
 | .cond cnd x y,hok=>by
  simp only [codeOk,Bool.and_eq_true] at hok
  exact U8 (mA hc x hok.1.2) (mA hc y hok.2) hok.1.1
 | .block id x,hok=>by
  simp only [codeOk] at hok
  exact O2 (mA hc x hok)
 | .exit id,_=>fun h hS=>by
  cases h
  exact wpIn_exit ⟨rfl,_,hS,St.refl hS.rel,Nat.le_refl _⟩
 | .loop x,_=>fun h hS=>by cases h
 | .rangeFunc _ _ _ _,_=>fun h hS=>by cases h
 | .scope _,_=>fun h hS=>by cases h
 | .label l,_=>fun h hS=>by cases h
 | .goto _,_=>fun h hS=>by cases h
 | .ret,_=>fun h hS=>by cases h
 | .refuse _,_=>fun h hS=>by cases h
end
end Go.Proofs.YtjopodnlffaogaaGreatDoor.Abs
end
section
namespace Go.Proofs.YtjopodnlffaogaaGreatDoor.Abs
open Go.RowKit Tp
noncomputable def T.R3 (t:T):(Nat→Bool)→T:=
 T.rec (motive:=fun _=>(Nat→Bool)→T) (fun _=> .nil) (fun v _ _ fl fr f=> .node (bif f 0 then v else none) (fl fun m=>f (2*m+1)) (fr fun m=>f (2*m+2))) t
theorem T.NV (v:Option AO) (l r:T) (f:Nat→Bool):(T.node v l r).R3 f= .node (bif f 0 then v else none) (l.R3 fun m=>f (2*m+1)) (r.R3 fun m=>f (2*m+2)):=rfl
theorem T.uZ:∀ (t:T) (f:Nat→Bool) (b:Nat) (o:AO),(t.R3 f).get b=some o→t.get b=some o
 | .nil,f,b,o,h=>by cases h
 | .node v l r,f,b,o,h=>by
  rw [T.NV] at h
  rcases dW b with rfl|⟨k,rfl,_,_⟩|⟨k,rfl,_,_,_⟩
  ·rw [T.iJ] at h ⊢
   cases hf:f 0 with
   |true=>rw [hf] at h;exact h
   |false=>rw [hf] at h;cases h
  ·rw [T.jB] at h ⊢
   exact T.uZ l _ k o h
  ·rw [T.gN] at h ⊢
   exact T.uZ r _ k o h
def VC (v:Value):List Nat:=
 match v with
 | .pointer (some a)=> [a.block]
 | .slice (some a) _ _=> [a.block]
 | .map (some b)=> [b]
 | .iface _ (.pointer (some a))=> [a.block]
 | .func _ ⟨x⟩ ⟨y⟩=>(x++y).filterMap fun u=>match u with
  | .pointer (some a)=>some a.block
  |_=>none
 |_=> []
noncomputable def namesL (cs:List Value):List Nat:=List.rec (motive:=fun _=>List Nat) [] (fun v _ k=>match VC v with
 | []=>k
 |l=>l++k) cs
noncomputable def namesF (t:Fr):List Nat:=FT.rec (motive:=fun _=>List Nat) [] (fun v _ _ kl kr=>match VC v with
 | []=>kl++kr
 |l=>l++(kl++kr)) t
noncomputable def reach (a:A) (n:Nat):List Nat→Nat→Nat:=
 Nat.rec (motive:=fun _=>List Nat→Nat→Nat) (fun _ m=>m) (fun _ k work m=>match work with
  | []=>m
  |b :: work=>bif Nat.beq (Nat.land m (2 ^ b)) 0 then (match a.get b with
   |some (.row cs _ _)=>k (namesL cs++work) (Nat.lor m (2 ^ b))
   |some _=>k work (Nat.lor m (2 ^ b))
   |none=>k work m) else k work m) n
noncomputable def gc (t:Fr) (a:A):A:=⟨a.next,a.t.R3 fun b=>Nat.ble b 12 || !Nat.beq (Nat.land (reach a 5000 (namesF t) 0) (2 ^ b)) 0⟩
theorem gc_get {t:Fr} {a:A} {b:Nat} {o:AO} (h:(gc t a).get b=some o):a.get b=some o:=T.uZ _ _ _ _ h
noncomputable def kU (body:C) (t:Fr) (p d:Nat) (xs:List (List UInt8)):A→Option A:=
 List.rec (motive:=fun _=>A→Option A) (fun a=>some a) (fun x _ k a=>match body (fM (fM t p (fA x)) d (iF (fM t p (fA x)) p)) a with
  |some (.normal,_,a')=>k (gc t a')
  |_=>none) xs
theorem SP (body:C) (t:Fr) (p d:Nat) (a:A):kU body t p d [] a=some a:=rfl
theorem M7 (body:C) (t:Fr) (p d:Nat) (x:List UInt8) (xs:List (List UInt8)) (a:A):kU body t p d (x :: xs) a=match body (fM (fM t p (fA x)) d (iF (fM t p (fA x)) p)) a with
  |some (.normal,_,a')=>kU body t p d xs (gc t a')
  |_=>none:=rfl
structure VX (P:Program) (G:Nat) (ρ:Rn) (a:A) (w:World) (b D:Nat) (c:Act) (t:Fr) (σ:Rn) (a':A) (w':World):Prop where
 rel:Rel P σ a' w'
 new:D6 σ a'.next
 gl:GL G σ
 tr:TR σ t c.tmps
 st:St P (fun b=>a.next≤b) ρ a w σ a' w'
 le:a.next≤a'.next
 out:∀ k,k=b∨k=D∨k=D+1→¬ pS σ a' k
structure Sub (a b:A):Prop where
 get:∀ n o,b.get n=some o→a.get n=some o
 next:a.next≤b.next
theorem Sub.refl (a:A):Sub a a:=⟨fun _ _ h=>h,Nat.le_refl _⟩
theorem Sub.trans {a b c:A} (h:Sub a b) (k:Sub b c):Sub a c:=⟨fun n o ho=>h.get n o (k.get n o ho),Nat.le_trans h.next k.next⟩
theorem Sub.gc (t:Fr) (a:A):Sub a (Abs.gc t a):=⟨fun _ _ h=>gc_get h,Nat.le_refl _⟩
theorem Sub.ne {a b:A} (h:Sub a b) {k:Nat} (hk:b.get k≠none):a.get k≠none:=by
 cases hq:b.get k with
 |none=>exact absurd hq hk
 |some o=>rw [h.get k o hq];simp
theorem VX.sub {P:Program} {G:Nat} {ρ:Rn} {a:A} {w:World} {b D:Nat} {c:Act} {t:Fr} {σ:Rn} {a' a2:A} {w':World} (h:VX P G ρ a w b D c t σ a' w') (hs:Sub a' a2):VX P G ρ a w b D c t σ a2 w':=by
 have hrel:Rel P σ a2 w':=⟨fun n o ho=>h.rel.obj n o (hs.get n o ho),fun n m k hn1 hn2=>h.rel.inj n m k (hs.ne hn1) (hs.ne hn2)⟩
 have hlive:∀ k,Live σ a2 k→Live σ a' k:=fun k ⟨n,o,h1,h2⟩=>⟨n,o,hs.get n o h1,h2⟩
 have hname:∀ k,pS σ a2 k→pS σ a' k:=fun k ⟨n,o,h1,h2⟩=>⟨n,o,hs.get n o h1,h2⟩
 exact ⟨hrel,fun m hm=>h.new m (Nat.le_trans hs.next hm),h.gl,h.tr,⟨h.st.ext,hrel,h.st.md,fun k hk=>h.st.own k (hlive k hk),fun k hk=>h.st.names k (hname k hk)⟩,Nat.le_trans h.le hs.next,fun k hk hq=>h.out k hk (hname k hq)⟩
inductive gO (P:Program) (G:Nat) (body:Code) (t:Fr) (p d:Nat):List (List UInt8)→A→A→Prop
 |nil (a:A):gO P G body t p d [] a a
 |cons {call:Callee} (hc:bV P G call) {x:List UInt8} {xs:List (List UInt8)} {a a' a2:A} {t':Fr} (h:nK P call body (fM (fM t p (fA x)) d (iF (fM t p (fA x)) p)) a=some (.normal,t',a')) (hk:gO P G body t p d xs a' a2):gO P G body t p d (x :: xs) a a2
 |sub {xs:List (List UInt8)} {a b a2:A} (h:Sub a b) (hk:gO P G body t p d xs b a2):gO P G body t p d xs a a2
theorem gO.Y5 {P:Program} {G:Nat} {body:Code} {t:Fr} {p d:Nat} {a a2:A} {xs:List (List UInt8)} (h:gO P G body t p d xs a a2) (hx:xs= []):Sub a a2:=by
 induction h with
 |nil a=>exact Sub.refl a
 |cons=>cases hx
 |sub h _ ih=>exact h.trans (ih hx)
theorem gO.cons_inv {P:Program} {G:Nat} {body:Code} {t:Fr} {p d:Nat} {a a2:A} {ys xs:List (List UInt8)} {x:List UInt8} (h:gO P G body t p d ys a a2) (hx:ys=x :: xs):
  ∃ call b a' t',bV P G call∧Sub a b∧nK P call body (fM (fM t p (fA x)) d (iF (fM t p (fA x)) p)) b=some (.normal,t',a')∧gO P G body t p d xs a' a2:=by
 induction h with
 |nil a=>cases hx
 |cons hc h hk _=>
  cases hx
  exact ⟨_,_,_,_,hc,Sub.refl _,h,hk⟩
 |sub h _ ih=>
  obtain ⟨call,b,a',t',h1,h2,h3,h4⟩:=ih hx
  exact ⟨call,b,a',t',h1,h.trans h2,h3,h4⟩
theorem gO.uH {P:Program} {G:Nat} {call:Callee} (hc:bV P G call) {body:Code} {t:Fr} {p d:Nat} :∀ (xs:List (List UInt8)) {ys:List (List UInt8)} {a a1 a2:A},kU (nK P call body) t p d xs a=some a1→gO P G body t p d ys a1 a2→gO P G body t p d (xs++ys) a a2
 | [],ys,a,a1,a2,h,hk=>by
  rw [SP] at h
  cases h
  exact hk
 |x :: xs,ys,a,a1,a2,h,hk=>by
  rw [M7] at h
  split at h
  ·rename_i t' a' hq
   exact .cons hc hq (.sub (Sub.gc t a') (gO.uH hc xs h hk))
  ·cases h
theorem VX.mod {P:Program} {G:Nat} {ρ:Rn} {a:A} {w:World} {b D:Nat} {c:Act} {t:Fr} {σ:Rn} {a':A} {w' w2:World} (h:VX P G ρ a w b D c t σ a' w') (hb:Live ρ a b) (hD:w.heap.size≤D) (hm:Mod (fun k=>k=b∨k=D∨k=D+1) w' w2):VX P G ρ a w b D c t σ a' w2:=by
 have hrel:Rel P σ a' w2:=⟨fun n o hn=>by
  obtain ⟨k,hk,ho⟩:=h.rel.obj n o hn
  refine ⟨k,hk,?_⟩
  rw [hm.block k (h.rel.lt (by rw [hn];simp) hk) (fun hk2=>h.out k hk2 ⟨n,o,hn,trivial,hk⟩)]
  exact ho,h.rel.inj⟩
 refine ⟨hrel,h.new,h.gl,h.tr,⟨h.st.ext,hrel,⟨hm.os.trans h.st.md.os,hm.tape.trans h.st.md.tape,hm.output.trans h.st.md.output,Nat.le_trans h.st.md.size hm.size,fun i hi hl=>?_⟩,h.st.own,h.st.names⟩,h.le,h.out⟩
 rw [hm.block i (Nat.lt_of_lt_of_le hi h.st.md.size) (fun hk=>?_)]
 ·exact h.st.md.block i hi hl
 ·rcases hk with rfl|rfl|rfl
  ·exact hl hb
  ·omega
  ·omega
theorem QP {G:Nat} {body:Code} (hbok:codeOk G body=true) {id k p d:Nat} {o:Oper} (ho1:o.dst=some d) (ho2:o.op= .assign (.tmp p)) (ho3:o.guard=none)
  {n:Nat} (hn:6≤n) {ρ:Rn} {t:Fr} {a a2:A} {c:Act} {w:World} (hS:yA Tryz.prog G [] ρ t a c w) {bn:Nat} (hk:iF t k= .func (.func 89) #[] #[.pointer (some ⟨bn,0,none⟩)]) (hlt:bn+1<1099511627776)
  {xs:List (List UInt8)} (hb:a.get bn=some (.row [.string (eE (gB xs))] 9 0)) (hx:∀ x∈xs,10∉x) (hs:(gB xs).length<1000000)
  (h:gO Tryz.prog G body t p d xs (a.put bn none) a2) {Q:Exit→Act→World→Prop}
  (hQ:∀ σ W,VX Tryz.prog G ρ a w w.heap.size w.heap.size c t σ a2 W→W.heap[w.heap.size]?=some (.deferred (some []))→Q .normal { c with defers:= { target:= .collected w.heap.size,args:=#[] } :: c.defers } W):
  (Code.rangeFunc (.tmp k) #[p] (.region id #[o] false) body).wpIn Fence.wide n Tryz.prog Q c w:=by
 have hv:=hS.tr.get k
 rw [hk] at hv
 obtain ⟨g,dd,e1,e2,e3⟩:=hv.u6
 obtain ⟨b,e4,hbb⟩:∃ b,dd=#[.pointer (some ⟨b,0,none⟩)]∧ρ.bI bn=some b:=by
  cases hl':dd.toList with
  |nil=>rw [hl'] at e3;cases e3
  |cons x l=>
   rw [hl'] at e3
   cases e3 with
   |cons hv ht=>
    cases ht
    obtain ⟨b,rfl,hb⟩:=hv.gT
    exact ⟨b,Array.toList_inj.1 (by simpa using hl'),hb⟩
 have e5:g=#[]:=by
  cases hl':g.toList with
  |nil=>exact Array.toList_inj.1 (by simpa using hl')
  |cons x l=>rw [hl'] at e2;cases e2
 subst e4 e5
 obtain ⟨C,fr,g1,g2,g3,g4,g5⟩:=hS.rel.row hb hbb
 obtain rfl:=g3 (by decide)
 have hC:C=#[.string (eE (gB xs))]:=by
  obtain ⟨pr,r,q1,q2⟩:=g2
  cases q2 with
  |cons hx ht=>
   cases ht
   have:=hx.bW rfl
   subst this
   have hlen:=congrArg List.length q1
   have h5:=g5 rfl
   simp only [Array.length_toList,List.length_append,List.length_cons,List.length_nil] at hlen h5
   have hr:r= []:=List.eq_nil_of_length_eq_zero (by omega)
   subst hr
   exact Array.toList_inj.1 (by simpa using q1)
 subst hC
 have hlive:Live ρ a b:=⟨bn,_,hb,by show (0:Nat)≠2;decide,hbb⟩
 have hdrop:=hS.rel.drop bn hlt
 have hseq:=NY (n - 1) (by omega) b xs hx hs
 have hbs:b<w.heap.size:=(Array.getElem?_eq_some_iff.1 g1).1
 refine wH (F:=Fence.wide) (ps:=#[p]) (H7:=fun l=>#[fA l]) (xs:=xs) (b:=b) (lb:=#[.pointer (some ⟨b,0,none⟩)]) (gf:=89) rfl (by omega) e1 trivial (fun args w=>AJ Tryz.func89 rfl (by kernel_rfl) args w) hseq g1 (fun x=>rfl)
  (fun pre W=>∃ σ a' suf,pre++suf=xs∧gO Tryz.prog G body t p d suf a' a2∧VX Tryz.prog G ρ a w b w.heap.size c t σ a' W) ?_ ?_
  (fun x=> { tmps:=(c.tmps.setIfInBounds p (fA x)).setIfInBounds d ((c.tmps.setIfInBounds p (fA x)).getD p undef),defers:= [] }) ?_ ?_ ?_
 ·rintro s A B ⟨σ,a',suf,h0,h1,h2⟩ hm
  exact ⟨σ,a',suf,h0,h1,h2.mod hlive (Nat.le_refl _) hm⟩
 ·have hout:∀ k,k=b∨k=w.heap.size∨k=w.heap.size+1→¬ pS ρ (a.put bn none) k:=by
   rintro k hk ⟨m,o',q1,_,q2⟩
   have hne:(a.put bn none).get m≠none:=by rw [q1];simp
   have hlt':=hdrop.1.lt hne q2
   rcases hk with rfl|rfl|rfl
   ·have hm:=hS.rel.inj m bn k (hdrop.2 m hne) (by rw [hb];simp) q2 hbb
    subst hm
    rw [get_put a m none m hlt,if_pos rfl] at q1
    cases q1
   ·omega
   ·omega
  exact ⟨ρ,_,xs,rfl,h,hdrop.1,hS.new,hS.gl,hS.tr,St.TM hlt (St.refl hdrop.1) hS.rel,Nat.le_refl _,hout⟩
 ·intro l x W K hK
  refine wpIn_region_list ?_
  show wpListIn _ _ _ _ _ [o] _ _
  refine wpListIn_plain ho3 fun K2 hK2=>?_
  refine rD (v:=(c.tmps.setIfInBounds p (fA x)).getD p undef) (w':=W) (fun c hc=>by rw [ho2] at hc;cases hc) ?_ (hK2 _ _ ?_)
  ·simp [execOp,ho2,Act.eval]
  ·rw [ho1]
   have e:Array.foldl (fun t (x:Tmp × Value)=>t.setIfInBounds x.1 x.2) c.tmps (#[p].zip #[fA x])=c.tmps.setIfInBounds p (fA x):=by simp
   show K (Act.put ⟨Array.foldl (fun t (x:Tmp × Value)=>t.setIfInBounds x.1 x.2) c.tmps (#[p].zip #[fA x]),[]⟩ (some d) _) W
   rw [e]
   exact hK
 ·intro l pre x W hI hpre hlt2
  obtain ⟨σ,a'0,suf,h0,h1,h20⟩:=hI
  obtain ⟨ys,hys⟩:=hpre
  have hsuf:suf=x :: ys:=by
   have e:pre++suf=pre++(x :: ys):=by rw [h0,← hys];simp
   exact List.append_cancel_left e
  obtain ⟨call,a',a1,t1,hc,hsb,h4,h5⟩:=h1.cons_inv hsuf
  have h2:=h20.sub hsb
  have q1:=h2.tr.put (c:=c) (VR.flat (v:=fA x) rfl) (some p)
  have htr:TR σ (fM (fM t p (fA x)) d (iF (fM t p (fA x)) p)) ((c.tmps.setIfInBounds p (fA x)).setIfInBounds d ((c.tmps.setIfInBounds p (fA x)).getD p undef)):=TR.put (c:=c.put (some p) (fA x)) q1 (q1.get p) (some d)
  have hS2:yA Tryz.prog G [] σ (fM (fM t p (fA x)) d (iF (fM t p (fA x)) p)) a' { tmps:=(c.tmps.setIfInBounds p (fA x)).setIfInBounds d ((c.tmps.setIfInBounds p (fA x)).getD p undef),defers:= [] } W:=⟨h2.rel,h2.new,h2.gl,htr,rfl⟩
  refine Go.wpIn_mono (mA hc body hbok h4 hS2) ?_
  rintro E c3 W3 ⟨rfl,τ,k1,k2,k3⟩
  have hsz:∀ k,k=b∨k=w.heap.size∨k=w.heap.size+1→k<W.heap.size:=by
   have:=h2.st.md.size
   rintro k (rfl|rfl|rfl) <;> omega
  have hM3:VX Tryz.prog G ρ a w b w.heap.size c t τ a1 W3:=⟨k1.rel,k1.new,k1.gl,h2.tr.mono (k2.le (h2.new)),h2.st.trans (k2.wide fun m hm=>Nat.le_trans h2.le hm),Nat.le_trans h2.le k3,fun k hk hnm=>by
   rcases k2.names k hnm with h5|h5
   ·exact h2.out k hk h5
   ·have:=hsz k hk
    omega⟩
  refine ⟨fun k hk=>k2.md.block k (hsz k hk) (fun hl=>h2.out k hk (by obtain ⟨m,o',q1,_,q2⟩:=hl;exact ⟨m,o',q1,trivial,q2⟩)),τ,a1,ys,by rw [← hys],h5,hM3⟩
 ·intro W hI hD
  obtain ⟨σ,a'0,suf,h0,h1,h20⟩:=hI
  have hsuf:suf= []:=by
   have:=congrArg List.length h0
   rw [List.length_append] at this
   exact List.eq_nil_of_length_eq_zero (by omega)
  have h2:=h20.sub (h1.Y5 hsuf)
  exact hQ σ W ⟨h2.rel,h2.new,h2.gl,h2.tr,h2.st,h2.le,fun k hk=>h2.out k (by rcases hk with h|h|h <;> simp [h])⟩ hD
def qQ:List UInt8→List UInt8→List (List UInt8)
 | [],_=> []
 |x :: l,acc=>match Nat.beq x.toNat 10 with
  |true=>acc.reverse :: qQ l []
  |false=>qQ l (x :: acc)
def noEnd (xs:List (List UInt8)):Bool:=xs.all fun l=>l.all fun x=>!Nat.beq x.toNat 10
theorem OP {xs:List (List UInt8)} (h:noEnd xs=true):∀ x∈xs,10∉x:=by
 intro x hx hm
 have h1:=List.all_eq_true.1 (List.all_eq_true.1 h x hx) 10 hm
 revert h1
 decide
def uG (a b:List UInt8):Bool:=match a,b with
 | [],[]=>true
 |x :: a,y :: b=>Nat.beq x.toNat y.toNat&&uG a b
 |_,_=>false
theorem wE:∀ {a b:List UInt8},uG a b=true→a=b
 | [],[],_=>rfl
 |x :: a,y :: b,h=>by
  simp only [uG,Bool.and_eq_true] at h
  rw [UInt8.toNat_inj.1 (Nat.eq_of_beq_eq_true h.1),wE h.2]
 | [],_ :: _,h=>by cases h
 |_ :: _,[],h=>by cases h
structure eV where
 x1:Code
 x2:Code
 x3:Code
 x4:Code
 id:Nat
 k:Nat
 p:Nat
 d:Nat
 rid:Nat
 o:Oper
 body:Code
 rest:Code
def eV.code (L:eV):Code:= .seq L.x1 (.seq L.x2 (.seq L.x3 (.seq (.seq L.x4 (.block L.id (.rangeFunc (.tmp L.k) #[L.p] (.region L.rid #[L.o] false) L.body))) L.rest)))
noncomputable def eV.pre (L:eV) (P:Program) (call:Callee) (lf:Nat):C:=wW (Abs.code P call lf L.x1) (wW (Abs.code P call lf L.x2) (wW (Abs.code P call lf L.x3) (Abs.code P call lf L.x4)))
noncomputable def wQ (t:Fr) (a:A) (k:Nat):Option (Nat × List (List UInt8)):=
 match iF t k with
 | .func (.func 89) ⟨[]⟩ ⟨[.pointer (some ⟨bn,0,none⟩)]⟩=>match a.get bn with
  |some (.row [.string ⟨⟨s⟩⟩] 9 0)=>match noEnd (qQ s [])&&uG s (gB (qQ s []))&&Nat.blt s.length 1000000&&Nat.blt bn 1000000 with
   |true=>some (bn,qQ s [])
   |false=>none
  |_=>none
 |_=>none
theorem N0 {t:Fr} {a:A} {k bn:Nat} {xs:List (List UInt8)} (h:wQ t a k=some (bn,xs)):iF t k= .func (.func 89) #[] #[.pointer (some ⟨bn,0,none⟩)]∧a.get bn=some (.row [.string (eE (gB xs))] 9 0)∧(∀ x∈xs,10∉x)∧(gB xs).length<1000000∧bn+1<1099511627776:=by
 unfold wQ at h
 split at h
 ·rename_i bn' hk
  split at h
  ·rename_i s hb
   split at h
   ·rename_i hq
    cases h
    simp only [Bool.and_eq_true,Nat.blt_eq] at hq
    obtain ⟨⟨⟨q1,q2⟩,q3⟩,q4⟩:=hq
    have e:=wE q2
    refine ⟨hk,?_,OP q1,by rw [← e];exact q3,by omega⟩
    rw [hb,← e]
    rfl
   ·cases h
  ·cases h
 ·cases h
def eV.Run (L:eV) (P:Program) (G:Nat) (t:Fr) (a:A) (r:Ex × Fr × A):Prop:=∃ c1 lf1 c2 lf2 t1 a1 bn xs a2,bV P G c1∧bV P G c2∧L.pre P c1 lf1 t a=some (.normal,t1,a1)∧wQ t1 a1 L.k=some (bn,xs)∧gO P G L.body t1 L.p L.d xs (a1.put bn none) a2∧Abs.code P c2 lf2 L.rest t1 a2=some r
noncomputable def eV.go (L:eV) (P:Program) (call:Callee) (lf:Nat):C:=fun t a=>
 match L.pre P call lf t a with
 |some (.normal,t1,a1)=>match wQ t1 a1 L.k with
  |some (bn,xs)=>match kU (nK P call L.body) t1 L.p L.d xs (a1.put bn none) with
   |some a2=>Abs.code P call lf L.rest t1 a2
   |none=>none
  |none=>none
 |_=>none
theorem eV.go_run {L:eV} {P:Program} {G:Nat} {call:Callee} (hc:bV P G call) {lf:Nat} {t:Fr} {a:A} {r:Ex × Fr × A} (h:L.go P call lf t a=some r):L.Run P G t a r:=by
 unfold eV.go at h
 split at h
 ·rename_i t1 a1 h1
  split at h
  ·rename_i bn xs h2
   split at h
   ·rename_i a2 h3
    have:=gO.uH hc xs h3 (.nil (P:=P) (G:=G) (body:=L.body) (t:=t1) (p:=L.p) (d:=L.d) a2)
    rw [List.append_nil] at this
    exact ⟨call,lf,call,lf,t1,a1,bn,xs,a2,hc,hc,h1,h2,this,h⟩
   ·cases h
  ·cases h
 ·cases h
def eV.ok (L:eV) (G:Nat):Bool:=codeOk G L.x1&&codeOk G L.x2&&codeOk G L.x3&&codeOk G L.x4&&codeOk G L.body&&codeOk G L.rest
structure eV.Fits (L:eV):Prop where
 o1:L.o.dst=some L.d
 o2:L.o.op= .assign (.tmp L.p)
 o3:L.o.guard=none
theorem Live.le {ρ:Rn} {a:A} {c:Nat} (h:Live ρ a c):pS ρ a c:=by
 obtain ⟨m,o,h1,_,h2⟩:=h
 exact ⟨m,o,h1,trivial,h2⟩
theorem vH {x y:C} {t t':Fr} {a a':A} (h:wW x y t a=some (.normal,t',a')):∃ t1 a1,x t a=some (.normal,t1,a1)∧y t1 a1=some (.normal,t',a'):=by
 unfold wW at h
 split at h
 ·rename_i t1 a1 h1
  exact ⟨t1,a1,h1,h⟩
 ·rename_i hne
  exact absurd h (hne _ _)
theorem qM {G:Nat} (hm:Tryz.prog.follows .mixedOrders=true) (L:eV) (hL:L.Fits) (hok:L.ok G=true) {f:FuncId} {fn:Func} (hf:Tryz.prog.funcs[f]?=some fn) (hb:fn.body=some L.code) (hn1:fn.ntmps≤2000)
  {args:List Value} (hn2:args.length≤fn.ntmps) {a a':A} {v:Value} {r:Ex × Fr × A} (hgo:L.Run Tryz.prog G (kF fn.ntmps args) a r) (h:leave Tryz.prog fn (some r)=some (v,a')):
  ∀ ρ w (cargs:Array Value),Rel Tryz.prog ρ a w→D6 ρ a.next→GL G ρ→LR ρ args cargs.toList→
  Calls Tryz.prog f cargs w fun e w'=>∃ cv σ,e= .returned cv∧VR σ v cv∧St Tryz.prog (fun b=>a.next≤b) ρ a w σ a' w'∧D6 σ a'.next∧a.next≤a'.next:=by
 intro ρ w cargs hR hnw hg hl
 simp only [eV.ok,Bool.and_eq_true] at hok
 obtain ⟨⟨⟨⟨⟨k1,k2⟩,k3⟩,k4⟩,k5⟩,k6⟩:=hok
 have htr:=FW hl fn.ntmps hn1 hn2
 have hS:yA Tryz.prog G [] ρ (kF fn.ntmps args) a { tmps:=cargs++Array.replicate (fn.ntmps - cargs.size) undef,defers:= [] } w:=⟨hR,hnw,hg,htr,rfl⟩
 refine (callsIn_wide (n:=9)).1 (callsIn_of_wp_marks hf hb trivial ?_ rfl)
 unfold leave at h
 obtain ⟨e,t3,a3⟩:=r
 split at h
 ·cases h
 ·rename_i e t3 a3 hx hee
  cases hee
  split at h
  ·rename_i vs hvs
   cases h
   obtain ⟨c1,lf1,c2,lf2,t1,a1,bn,xs,a2,hc1,hc2,hpre,htx,hea,hgo⟩:=hgo
   ···
      obtain ⟨u1,u2,u3,u4,u5⟩:=N0 htx
      -- the end
      have hend:∀ (D:List Deferred) (E:Exit) (c3:Act) (w3:World) (σ:Rn),(D= []∨∃ k,D= [{ target:= .collected k,args:=#[] }]∧w3.heap[k]?=some (.deferred (some []))∧¬ pS σ a' k∧w.heap.size≤k)→yA Tryz.prog G D σ t3 a' c3 w3→St Tryz.prog (fun b=>a.next≤b) ρ a w σ a' w3→a.next≤a'.next→E=e.conc→
        bodyPostM Fence.wide 9 Tryz.prog fn (fun e w'=>∃ cv σ,e= .returned cv∧VR σ (uY vs) cv∧St Tryz.prog (fun b=>a.next≤b) ρ a w σ a' w'∧D6 σ a'.next∧a.next≤a'.next) E c3 w3:=by
       rintro D E c3 w3 σ hD hS3 hst hle rfl
       have hfin:LeavesInM Fence.wide 9 Tryz.prog fn c3.tmps (fun e w'=>∃ cv σ,e= .returned cv∧VR σ (uY vs) cv∧St Tryz.prog (fun b=>a.next≤b) ρ a w σ a' w'∧D6 σ a'.next∧a.next≤a'.next) c3.defers .returning w3:=by
        rw [hS3.df]
        rcases hD with rfl|⟨k,rfl,q1,q2,q3⟩
        ·obtain ⟨cv,r1,r2⟩:=pX hS3.rel hS3.tr hvs
         exact ⟨cv,r2,cv,σ,rfl,r1,hst,hS3.new,hle⟩
        ·have hrel:Rel Tryz.prog σ a' (w3.putObj k (.deferred none)):=⟨fun n o hn=>by
          obtain ⟨i,hi,ho⟩:=hS3.rel.obj n o hn
          refine ⟨i,hi,?_⟩
          have hne:i≠k:=fun he=>q2 ⟨n,o,hn,trivial,by rw [← he];exact hi⟩
          rw [World.putObj_heap_other hne]
          exact ho,hS3.rel.inj⟩
         obtain ⟨cv,r1,r2⟩:=pX hrel hS3.tr hvs
         refine ⟨by simp,.inl ⟨k,_,rfl,run_takeDeferred q1,cv,r2,cv,σ,rfl,r1,⟨hst.ext,hrel,⟨hst.md.os,hst.md.tape,hst.md.output,?_,fun i hi hni=>?_⟩,hst.own,hst.names⟩,hS3.new,hle⟩⟩
         ·have:=hst.md.size
          simpa using this
         ·rw [World.putObj_heap_other (by omega)]
          exact hst.md.block i hi hni
       cases e with
       |normal=>exact hfin
       |ret=>exact hfin
       |exit id=>exact absurd rfl (hx _)
      obtain ⟨s1,b1,p1,p2⟩:=vH hpre
      obtain ⟨s2,b2,p3,p4⟩:=vH p2
      obtain ⟨s3,b3,p5,p6⟩:=vH p4
      refine wpIn_seq (Go.wpIn_mono (wpIn_wide.2 (dP hc1 hm lf1 L.x1 k1 p1 hS)) ?_)
      rintro E c1 w1 ⟨rfl,σ1,S1,T1,L1⟩
      refine wpIn_seq (Go.wpIn_mono (wpIn_wide.2 (dP hc1 hm lf1 L.x2 k2 p3 S1)) ?_)
      rintro E c2 w2 ⟨rfl,σ2,S2,T2,L2⟩
      refine wpIn_seq (Go.wpIn_mono (wpIn_wide.2 (dP hc1 hm lf1 L.x3 k3 p5 S2)) ?_)
      rintro E c3 w3 ⟨rfl,σ3,S3,T3,L3⟩
      refine wpIn_seq (wpIn_seq (Go.wpIn_mono (wpIn_wide.2 (dP hc1 hm lf1 L.x4 k4 p6 S3)) ?_))
      rintro E c4 w4 ⟨rfl,σ4,S4,T4,L4⟩
      have T:St Tryz.prog (fun b=>a.next≤b) ρ a w σ4 a1 w4:=T1.trans ((T2.wide fun m hm=>Nat.le_trans L1 hm).trans ((T3.wide fun m hm=>Nat.le_trans L1 (Nat.le_trans L2 hm)).trans (T4.wide fun m hm=>Nat.le_trans L1 (Nat.le_trans L2 (Nat.le_trans L3 hm)))))
      have Lx:a.next≤a1.next:=Nat.le_trans L1 (Nat.le_trans L2 (Nat.le_trans L3 L4))
      refine wpIn_block (QP k5 hL.o1 hL.o2 hL.o3 (by decide) S4 u1 u5 u2 u3 u4 hea ?_)
      intro τ W hM hD
      have hkW:w4.heap.size<W.heap.size:=(Array.getElem?_eq_some_iff.1 hD).1
      have hS5:yA Tryz.prog G [{ target:= .collected w4.heap.size,args:=#[] }] τ t1 a2 { c4 with defers:= { target:= .collected w4.heap.size,args:=#[] } :: c4.defers } W:=⟨hM.rel,hM.new,hM.gl,hM.tr,by rw [S4.df]⟩
      have hout:=hM.out w4.heap.size (.inl rfl)
      refine Go.wpIn_mono (wpIn_wide.2 (dP hc2 hm lf2 L.rest k6 hgo hS5)) ?_
      rintro E c6 w6 ⟨hE,σ6,S6,T6,L6⟩
      refine hend _ E c6 w6 σ6 (.inr ⟨_,rfl,?_,?_,T.md.size⟩) S6 (T.trans ((hM.st.wide fun m hm=>Nat.le_trans Lx hm).trans (T6.wide fun m hm=>Nat.le_trans Lx (Nat.le_trans hM.le hm)))) (Nat.le_trans Lx (Nat.le_trans hM.le L6)) hE
      ·rw [T6.md.block _ hkW (fun hl=>hout hl.le)]
       exact hD
      ·intro hnm
       rcases T6.names _ hnm with h5|h5
       ·exact hout h5
       ·omega
  ·cases h
 ·cases h
theorem RI {G lf:Nat} {call:Callee} (hc:bV Tryz.prog G call) (hm:Tryz.prog.follows .mixedOrders=true) (L:eV) (hL:L.Fits) (hok:L.ok G=true) {f:FuncId} {fn:Func} (hf:Tryz.prog.funcs[f]?=some fn) (hb:fn.body=some L.code) (hn1:fn.ntmps≤2000)
  {args:List Value} (hn2:args.length≤fn.ntmps) {a a':A} {v:Value} (h:leave Tryz.prog fn (L.go Tryz.prog call lf (kF fn.ntmps args) a)=some (v,a')):
  ∀ ρ w (cargs:Array Value),Rel Tryz.prog ρ a w→D6 ρ a.next→GL G ρ→LR ρ args cargs.toList→
  Calls Tryz.prog f cargs w fun e w'=>∃ cv σ,e= .returned cv∧VR σ v cv∧St Tryz.prog (fun b=>a.next≤b) ρ a w σ a' w'∧D6 σ a'.next∧a.next≤a'.next:=by
 cases hq:L.go Tryz.prog call lf (kF fn.ntmps args) a with
 |none=>
  rw [hq] at h
  cases h
 |some r=>
  rw [hq] at h
  exact qM hm L hL hok hf hb hn1 hn2 (eV.go_run hc hq) h
end Go.Proofs.YtjopodnlffaogaaGreatDoor.Abs
end
section
namespace Go.Proofs.YtjopodnlffaogaaGreatDoor.Abs
open Go.RowKit
def wX:Value→Bool
 | .iface _ (.pointer (some ⟨_,_,some _⟩))=>true
 |v=>flat v
theorem EZ {ρ σ:Rn} {v w:Value} (h:wX v=true) (hv:VR ρ v w):VR σ v w:=by
 unfold wX at h
 split at h
 ·cases hv with
  |flat h=>simp [flat] at h
  |iface h=>
   cases h with
   |flat h=>simp [flat] at h
   |fU=>exact .iface .fU
 ·rw [hv.bW h]
  exact .flat h
theorem vQ {ρ σ:Rn} :∀ {l m:List Value},l.all wX=true→LR ρ l m→LR σ l m
 | [],_,_,h=>by cases h;exact .nil
 |v :: l,_,hok,h=>by
  cases h with
  |cons hv ht=>
   simp only [List.all_cons,Bool.and_eq_true] at hok
   exact .cons (EZ hok.1 hv) (vQ hok.2 ht)
def I7:Value→Value→Bool
 | .iface t (.pointer (some ⟨b,o,some x⟩)),.iface u (.pointer (some ⟨c,p,some y⟩))=>Nat.beq t u&&Nat.beq b c&&Nat.beq o p&&Nat.beq x y
 |v,w=>T5 v w
theorem N8 {v w:Value} (h:I7 v w=true):v=w:=by
 unfold I7 at h
 split at h
 ·simp only [Bool.and_eq_true,l5] at h
  obtain ⟨⟨⟨h1,h2⟩,h3⟩,h4⟩:=h
  subst h1 h2 h3 h4
  rfl
 ·exact lY h
def uM:List Value→List Value→Bool
 | [],[]=>true
 |v :: l,w :: m=>I7 v w&&uM l m
 |_,_=>false
theorem vB:∀ {l m:List Value},uM l m=true→l=m
 | [],[],_=>rfl
 |v :: l,w :: m,h=>by
  simp only [uM,Bool.and_eq_true] at h
  rw [N8 h.1,vB h.2]
 | [],_ :: _,h=>by cases h
 |_ :: _,[],h=>by cases h
abbrev iR:=List (Nat × List Value × TypeId)
noncomputable def jU (vs:iR):A:=vs.foldr (fun r a=>a.put r.1 (some (.row r.2.1 r.2.2 2))) ⟨13,.nil⟩
def jW (vs:iR):Bool:=vs.all fun r=>r.2.1.all wX&&Nat.blt r.1 12
noncomputable def U1 (vs:iR) (a:A):Bool:=vs.all fun r=>match a.get r.1 with
 |some (.row cs e 2)=>uM cs r.2.1&&Nat.beq e r.2.2
 |_=>false
theorem kA:∀ {vs:iR},jW vs=true→∀ {b:Nat} {o:AO},(jU vs).get b=some o→∃ cs e,o= .row cs e 2∧(b,cs,e)∈vs∧cs.all wX=true∧b<12
 | [],_,b,o,h=>by cases h
 |r :: vs,hok,b,o,h=>by
  simp only [jW,List.all_cons,Bool.and_eq_true,Nat.blt_eq] at hok
  have h2:((jU vs).put r.1 (some (.row r.2.1 r.2.2 2))).get b=some o:=h
  rw [get_put _ _ _ _ (by omega)] at h2
  split at h2
  ·rename_i hb
   cases h2
   subst hb
   exact ⟨_,_,rfl,List.mem_cons_self,hok.1.1,hok.1.2⟩
  ·obtain ⟨cs,e,h3,h4,h5⟩:=kA (vs:=vs) hok.2 h2
   exact ⟨cs,e,h3,List.mem_cons_of_mem _ h4,h5⟩
theorem oN:∀ (vs:iR),(jU vs).next=13
 | []=>rfl
 |r :: vs=>oN vs
theorem FV {vs:iR} {a:A} (h:U1 vs a=true) {b:Nat} {cs:List Value} {e:TypeId} (hm:(b,cs,e)∈vs):a.get b=some (.row cs e 2):=by
 have:=List.all_eq_true.1 h _ hm
 simp only [] at this
 split at this
 ·rename_i cs' e' hg
  simp only [Bool.and_eq_true,l5] at this
  rw [hg,vB this.1,this.2]
 ·cases this
theorem u9 {P:Program} {ρ:Rn} {a:A} {w:World} (hR:Rel P ρ a w) {vs:iR} (hok:jW vs=true) (h:U1 vs a=true):Rel P ⟨fun b=>if b<13 then ρ.bI b else none,ρ.cap⟩ (jU vs) w:=by
 refine ⟨fun b o hb=>?_,fun b b' c hb hb' hc hc'=>?_⟩
 ·obtain ⟨cs,e,rfl,hm,hcs,hlt⟩:=kA hok hb
  obtain ⟨c,h1,C,fr,h2,⟨p,r,h3,h4⟩,h5⟩:=hR.obj b _ (FV h hm)
  refine ⟨c,by show (if b<13 then ρ.bI b else none)=_;rw [if_pos (by omega)];exact h1,C,fr,h2,⟨p,r,h3,vQ hcs h4⟩,fun h=>absurd rfl h,(fun h=>by cases h),fun h=>by cases h⟩
 ·have g:∀ k,(jU vs).get k≠none→a.get k≠none∧k<13:=fun k hk=>by
   cases hg:(jU vs).get k with
   |none=>exact absurd hg hk
   |some o=>
    obtain ⟨cs,e,rfl,hm,_,hlt⟩:=kA hok hg
    rw [FV h hm]
    exact ⟨by simp,by omega⟩
  have g1:=g b hb
  have g2:=g b' hb'
  have hc1:(if b<13 then ρ.bI b else none)=some c:=hc
  have hc2:(if b'<13 then ρ.bI b' else none)=some c:=hc'
  rw [if_pos g1.2] at hc1
  rw [if_pos g2.2] at hc2
  exact hR.inj b b' c g1.1 g2.1 hc1 hc2
def tJ (P:Program) (vs:iR) (f:FuncId) (args:List Value) (v:Value):Prop:=∀ ρ (a:A) (w:World),Rel P ρ a w→GL 12 ρ→U1 vs a=true→Calls P f args.toArray w fun e w'=>e= .returned v∧Md (fun _=>False) w w'
theorem known {P:Program} {call:Callee} (hc:bV P 12 call) {vs:iR} (hok:jW vs=true) {f:FuncId} {args:List Value} {v:Value} (hfa:fC args=true) (hfv:flat v=true) (h:(call f args (jU vs)).map (fun r=>r.1)=some v):tJ P vs f args v:=by
 intro ρ a w hR hg hv
 cases hq:call f args (jU vs) with
 |none=>rw [hq] at h;cases h
 |some r=>
  obtain ⟨u,a'⟩:=r
  rw [hq] at h
  cases h
  have hR0:=u9 hR hok hv
  refine (hc f args (jU vs) _ a' hq _ w args.toArray hR0 (fun b hb=>?_) (fun g hgl=>?_) (LR.flat hfa)).mono ?_
  ·rw [oN] at hb
   show (if b<13 then ρ.bI b else none)=none
   rw [if_neg (by omega)]
  ·show (if g<13 then ρ.bI g else none)=some g
   rw [if_pos (by omega)]
   exact hg g hgl
  ·rintro e w' ⟨cv,σ,rfl,hv2,hs,_⟩
   refine ⟨by rw [hv2.bW hfv],hs.md.os,hs.md.tape,hs.md.output,hs.md.size,fun i hi _=>hs.md.block i hi (fun hl=>?_)⟩
   obtain ⟨b,o,hb,hw,_⟩:=hl
   obtain ⟨cs,e,rfl,_⟩:=kA hok hb
   exact hw rfl
noncomputable def SV (tab:List (List Value × Value)) (args:List Value):Option Value:=
 List.rec (motive:=fun _=>Option Value) none (fun r _ k=>bif tV args r.1 then some r.2 else k) tab
theorem AX:∀ {tab:List (List Value × Value)} {args:List Value} {v:Value},SV tab args=some v→(args,v)∈tab
 | [],_,_,h=>by cases h
 |r :: tab,args,v,h=>by
  have h2:(bif tV args r.1 then some r.2 else SV tab args)=some v:=h
  cases hq:tV args r.1 with
  |true=>
   rw [hq] at h2
   cases h2
   rw [pE hq]
   exact List.mem_cons_self
  |false=>
   rw [hq] at h2
   exact List.mem_cons_of_mem _ (AX h2)
noncomputable def yL (vs:iR) (f0:FuncId) (tab:List (List Value × Value)):Callee:=fun f args a=>
 match Nat.beq f f0 with
 |true=>match SV tab args with
  |some v=>match U1 vs a with
   |true=>some (v,a)
   |false=>none
  |none=>none
 |false=>none
theorem J1 {P:Program} {ρ:Rn} {a:A} {w w':World} (h:Rel P ρ a w) (hm:Md (fun _=>False) w w'):Rel P ρ a w':=⟨fun b o hb=>by
 obtain ⟨c,hc,ho⟩:=h.obj b o hb
 refine ⟨c,hc,?_⟩
 rw [hm.block c (h.lt (by rw [hb];simp) hc) (fun h=>h)]
 exact ho,h.inj⟩
theorem tab_ok {P:Program} {vs:iR} {f0:FuncId} {tab:List (List Value × Value)} (h:∀ r∈tab,fC r.1=true∧flat r.2=true∧tJ P vs f0 r.1 r.2):bV P 12 (yL vs f0 tab):=by
 intro f args a v a' hq ρ w cargs hR hn hg hl
 unfold yL at hq
 split at hq
 ·rename_i hf
  obtain rfl:=Nat.eq_of_beq_eq_true hf
  split at hq
  ·rename_i u hu
   split at hq
   ·rename_i hv
    cases hq
    obtain ⟨h1,h2,h3⟩:=h _ (AX hu)
    have he:cargs=args.toArray:=Array.toList_inj.1 (by simpa using hl.bW h1)
    subst he
    refine (h3 ρ a w hR hg hv).mono ?_
    rintro e w' ⟨rfl,hm⟩
    exact ⟨_,ρ,rfl,.flat h2,⟨fun _ _=>⟨rfl,rfl⟩,J1 hR hm,⟨hm.os,hm.tape,hm.output,hm.size,fun i hi _=>hm.block i hi (fun h=>h)⟩,fun _ hc=> .inl hc,fun _ hc=> .inl hc⟩,hn,Nat.le_refl _⟩
   ·cases hq
  ·cases hq
 ·cases hq
def uN:Code→Option eV
 | .seq x1 (.seq x2 (.seq x3 (.seq (.seq x4 (.block id (.rangeFunc (.tmp k) ⟨[p]⟩ (.region rid ⟨[o]⟩ false) body))) rest)))=>
  match o.dst,o.op,o.guard with
  |some d,.assign (.tmp q),none=>match Nat.beq q p with
   |true=>some ⟨x1,x2,x3,x4,id,k,p,d,rid,o,body,rest⟩
   |false=>none
  |_,_,_=>none
 |_=>none
theorem xL {c:Code} {L:eV} (h:uN c=some L):c=L.code∧L.Fits:=by
 unfold uN at h
 split at h
 ·split at h
  ·rename_i d q h1 h2 h3
   split at h
   ·rename_i hq
    have hq':=Nat.eq_of_beq_eq_true hq
    subst hq'
    cases h
    exact ⟨rfl,h1,h2,h3⟩
   ·cases h
  ·cases h
 ·cases h
noncomputable def gE (P:Program) (lf:Nat) (call:Callee) (fs:List FuncId):Callee:=fun f args a=>
 match memN f fs with
 |true=>match P.funcs[f]? with
  |some fn=>match fn.body with
   |some c=>match uN c with
    |some L=>match L.ok 12&&Nat.ble fn.ntmps 2000&&Nat.ble args.length fn.ntmps with
     |true=>leave P fn (L.go P call lf (kF fn.ntmps args) a)
     |false=>none
    |none=>none
   |none=>none
  |none=>none
 |false=>none
theorem AF {lf:Nat} {call:Callee} (hc:bV Tryz.prog 12 call) (hm:Tryz.prog.follows .mixedOrders=true) (fs:List FuncId):bV Tryz.prog 12 (gE Tryz.prog lf call fs):=by
 intro f args a v a' h
 unfold gE at h
 split at h
 ·split at h
  ·rename_i fn hf
   split at h
   ·rename_i c hb
    split at h
    ·rename_i L hL
     split at h
     ·rename_i hq
      simp only [Bool.and_eq_true] at hq
      obtain ⟨hcode,hfit⟩:=xL hL
      subst hcode
      exact RI hc hm L hfit hq.1.1 hf hb (Nat.le_of_ble_eq_true hq.1.2) (Nat.le_of_ble_eq_true hq.2) h
     ·cases h
    ·cases h
   ·cases h
  ·cases h
 ·cases h
def mI (f:FuncId) (args:List Value) (a:A) (v:Value) (a':A):Prop:=∀ ρ w (cargs:Array Value),Rel Tryz.prog ρ a w→D6 ρ a.next→GL 12 ρ→LR ρ args cargs.toList→
 Calls Tryz.prog f cargs w fun e w'=>∃ cv σ,e= .returned cv∧VR σ v cv∧St Tryz.prog (fun b=>a.next≤b) ρ a w σ a' w'∧D6 σ a'.next∧a.next≤a'.next
noncomputable def CC (n:Nat) (l:List (Nat × AO)):A:=l.foldr (fun r a=>a.put r.1 (some r.2)) ⟨n,.nil⟩
theorem xT (n:Nat):∀ (l:List (Nat × AO)),(CC n l).next=n
 | []=>rfl
 |r :: l=>xT n l
noncomputable def sW (a:A) (n:Nat) (l:List (Nat × AO)):Bool:=Nat.ble a.next n&&l.all fun r=>Nat.blt r.1 1000000&&W9 (a.get r.1) (some r.2)
theorem wA {a:A} {n:Nat} :∀ {l:List (Nat × AO)},sW a n l=true→Sub a (CC n l)
 | [],h=>by
  simp only [sW,Bool.and_eq_true] at h
  exact ⟨(fun m o ho=>by cases ho),Nat.le_of_ble_eq_true h.1⟩
 |r :: l,h=>by
  simp only [sW,Bool.and_eq_true,List.all_cons,Nat.blt_eq] at h
  obtain ⟨h1,⟨h2,h3⟩,h4⟩:=h
  have ih:Sub a (CC n l):=wA (by simp only [sW,Bool.and_eq_true];exact ⟨h1,h4⟩)
  refine ⟨fun m o ho=>?_,by rw [xT];exact Nat.le_of_ble_eq_true h1⟩
  have h5:((CC n l).put r.1 (some r.2)).get m=some o:=ho
  rw [get_put _ _ _ _ (by omega)] at h5
  split at h5
  ·rename_i hm
   cases h5
   subst hm
   exact LY h3
  ·exact ih.get m o h5
noncomputable def gI (f:FuncId) (c1:Callee) (lf:Nat) (args:List Value) (a:A):Option (Func × eV × Fr × List (List UInt8) × A):=
 match Tryz.prog.funcs[f]? with
 |some fn=>match fn.body with
  |some c=>match uN c with
   |some L=>match L.ok 12&&Nat.ble fn.ntmps 2000&&Nat.ble args.length fn.ntmps with
    |true=>match L.pre Tryz.prog c1 lf (kF fn.ntmps args) a with
     |some (.normal,t1,a1)=>match wQ t1 a1 L.k with
      |some (bn,xs)=>some (fn,L,t1,xs,a1.put bn none)
      |none=>none
     |_=>none
    |false=>none
   |none=>none
  |none=>none
 |none=>none
noncomputable def getS (s:Option A) (a:A):A:=
 match s with
 |some b=>b
 |none=>a
def mY (st:Option (Func × eV × Fr × List (List UInt8) × A)) (i:Nat) (s:Option A) (chk:Option (Value × A)→Bool):Prop:=∀ fn L t1 xs a0,st=some (fn,L,t1,xs,a0)→
 ∃ r a2 c2 lf2,gO Tryz.prog 12 L.body t1 L.p L.d (xs.drop i) (getS s a0) a2∧bV Tryz.prog 12 c2∧Abs.code Tryz.prog c2 lf2 L.rest t1 a2=some r∧chk (leave Tryz.prog fn (some r))=true
noncomputable def i7 (st:Option (Func × eV × Fr × List (List UInt8) × A)) (call:Callee) (i k:Nat) (s:Option A) (n:Nat) (l:List (Nat × AO)):Bool:=
 match st with
 |some (_,L,t1,xs,a0)=>match kU (nK Tryz.prog call L.body) t1 L.p L.d ((xs.drop i).take k) (getS s a0) with
  |some a'=>sW a' n l
  |none=>false
 |none=>false
theorem mY.piece {st:Option (Func × eV × Fr × List (List UInt8) × A)} {call:Callee} (hc:bV Tryz.prog 12 call) {i k:Nat} {s:Option A} {n:Nat} {l:List (Nat × AO)} {chk:Option (Value × A)→Bool} (h:i7 st call i k s n l=true) (hk:mY st (i+k) (some (CC n l)) chk):mY st i s chk:=by
 intro fn L t1 xs a0 hst
 obtain ⟨r,a2,c2,lf2,h1,h2,h3,h4⟩:=hk fn L t1 xs a0 hst
 subst hst
 unfold i7 at h
 simp only [] at h
 split at h
 ·rename_i a' hq
  refine ⟨r,a2,c2,lf2,?_,h2,h3,h4⟩
  have e:xs.drop i=(xs.drop i).take k++xs.drop (i+k):=by rw [← List.drop_drop,List.take_append_drop]
  rw [e]
  exact gO.uH hc _ hq (.sub (wA h) h1)
 ·cases h
noncomputable def zV (st:Option (Func × eV × Fr × List (List UInt8) × A)) (call:Callee) (lf i:Nat) (s:Option A) (chk:Option (Value × A)→Bool):Bool:=
 match st with
 |some (fn,L,t1,xs,a0)=>match kU (nK Tryz.prog call L.body) t1 L.p L.d (xs.drop i) (getS s a0) with
  |some a2=>match Abs.code Tryz.prog call lf L.rest t1 a2 with
   |some r=>chk (leave Tryz.prog fn (some r))
   |none=>false
  |none=>false
 |none=>false
theorem mY.end {st:Option (Func × eV × Fr × List (List UInt8) × A)} {call:Callee} (hc:bV Tryz.prog 12 call) {lf i:Nat} {s:Option A} {chk:Option (Value × A)→Bool} (h:zV st call lf i s chk=true):mY st i s chk:=by
 intro fn L t1 xs a0 hst
 subst hst
 unfold zV at h
 simp only [] at h
 split at h
 ·rename_i a2 hq
  split at h
  ·rename_i r hr
   have:=gO.uH hc _ hq (.nil (P:=Tryz.prog) (G:=12) (body:=L.body) (t:=t1) (p:=L.p) (d:=L.d) a2)
   rw [List.append_nil] at this
   exact ⟨r,a2,call,lf,this,hc,hr,h⟩
  ·cases h
 ·cases h
theorem sT {f:FuncId} {c1:Callee} (hc1:bV Tryz.prog 12 c1) (hm:Tryz.prog.follows .mixedOrders=true) {lf:Nat} {args:List Value} {a:A} {chk:Option (Value × A)→Bool} (hst:(gI f c1 lf args a).isSome=true) (h:mY (gI f c1 lf args a) 0 none chk) (hn:chk none=false):
  ∃ v a',chk (some (v,a'))=true∧mI f args a v a':=by
 cases hq:gI f c1 lf args a with
 |none=>rw [hq] at hst;cases hst
 |some q=>
  obtain ⟨fn,L,t1,xs,a0⟩:=q
  obtain ⟨r,a2,c2,lf2,h1,h2,h3,h4⟩:=h fn L t1 xs a0 hq
  cases hl:leave Tryz.prog fn (some r) with
  |none=>rw [hl,hn] at h4;cases h4
  |some va=>
   obtain ⟨v,a'⟩:=va
   rw [hl] at h4
   refine ⟨v,a',h4,?_⟩
   unfold gI at hq
   split at hq
   ·rename_i fn' hf
    split at hq
    ·rename_i c hb
     split at hq
     ·rename_i L' hL
      split at hq
      ·rename_i hok
       simp only [Bool.and_eq_true] at hok
       split at hq
       ·rename_i t1' a1 hpre
        split at hq
        ·rename_i bn xs' htx
         cases hq
         obtain ⟨hcode,hfit⟩:=xL hL
         subst hcode
         exact qM hm _ hfit hok.1.1 hf hb (Nat.le_of_ble_eq_true hok.1.2) (Nat.le_of_ble_eq_true hok.2) ⟨c1,lf,c2,lf2,_,a1,bn,_,a2,hc1,h2,hpre,htx,h1,h3⟩ hl
        ·cases hq
       ·cases hq
      ·cases hq
     ·cases hq
    ·cases hq
   ·cases hq
theorem mI.LW {call:Callee} (hc:bV Tryz.prog 12 call) {f:FuncId} {args:List Value} {a a':A} {v:Value} (h:call f args a=some (v,a')):mI f args a v a':=fun ρ w cargs h1 h2 h3 h4=>hc f args a v a' h ρ w cargs h1 h2 h3 h4
end Go.Proofs.YtjopodnlffaogaaGreatDoor.Abs
end
section
namespace Go.Proofs.YtjopodnlffaogaaGreatDoor.Tp
open Go.RowKit Go.Proofs.YtjopodnlffaogaaGreatDoorW.PrintWords Go.Proofs.YtjopodnlffaogaaGreatDoorW.PrintLast Go.Proofs.YtjopodnlffaogaaGreatDoorW.PrintMore
attribute [local go_sem] aU aQ aY aX aI aJ aT aN
def kS:ByteArray:=⟨#[108,111,99,107,58,10,102,97,100,100,32,114,49,32,48,32,114,48,32,49,10,109,97,114,107,32,49,10,97,119,97,105,116,32,114,50,32,49,32,114,48,32,101,113,32,114,49,10,109,97,114,107,32,50,10,100,111,110,101,32,49,10,117,110,108,111,99,107,58,10,97,100,100,107,32,114,49,32,114,49,32,49,10,115,116,111,114,101,32,49,32,114,48,32,114,49,10,109,97,114,107,32,52,10,100,111,110,101,32,50,10]⟩
def jL:ByteArray:=⟨#[108,111,99,107,58,10,115,101,108,102,32,114,49,10,108,111,97,100,32,114,50,32,49,32,114,49,10,115,104,108,32,114,51,32,114,49,32,49,10,111,114,32,114,51,32,114,51,32,114,50,10,115,119,97,112,32,114,52,32,48,32,114,48,32,114,51,10,109,97,114,107,32,49,10,97,110,100,107,32,114,53,32,114,52,32,49,10,115,104,114,32,114,54,32,114,52,32,49,10,97,119,97,105,116,32,114,52,32,49,32,114,54,32,110,101,32,114,53,10,109,97,114,107,32,50,10,100,111,110,101,32,49,10,117,110,108,111,99,107,58,10,99,111,110,115,116,32,114,51,32,49,10,98,101,113,32,114,50,32,114,48,32,116,117,114,110,10,99,111,110,115,116,32,114,51,32,48,10,116,117,114,110,58,10,115,116,111,114,101,32,49,32,114,49,32,114,51,10,109,97,114,107,32,52,10,100,111,110,101,32,50,10]⟩
def qW:ByteArray:=⟨#[108,111,99,107,58,10,99,111,110,115,116,32,114,49,32,49,10,115,116,111,114,101,32,49,32,114,55,32,114,49,10,115,119,97,112,32,114,54,32,48,32,114,48,32,114,55,10,109,97,114,107,32,49,10,97,119,97,105,116,32,114,49,32,49,32,114,54,32,101,113,32,114,48,10,109,97,114,107,32,50,10,100,111,110,101,32,49,10,117,110,108,111,99,107,58,10,115,116,111,114,101,32,49,32,114,55,32,114,48,10,109,97,114,107,32,52,10,109,111,118,101,32,114,55,32,114,54,10,100,111,110,101,32,50,10]⟩
def lJ:ByteArray:=⟨#[108,111,99,107,58,10,115,101,108,102,32,114,49,10,97,100,100,107,32,114,50,32,114,49,32,49,10,115,116,111,114,101,32,49,32,114,49,32,114,48,10,99,111,110,115,116,32,114,51,32,49,10,115,116,111,114,101,32,50,32,114,49,32,114,51,10,115,119,97,112,32,114,52,32,48,32,114,48,32,114,50,10,109,97,114,107,32,49,10,98,101,113,32,114,52,32,114,48,32,103,111,116,10,97,100,100,107,32,114,52,32,114,52,32,52,50,57,52,57,54,55,50,57,53,10,115,116,111,114,101,32,49,32,114,52,32,114,50,10,97,119,97,105,116,32,114,53,32,50,32,114,49,32,101,113,32,114,48,10,103,111,116,58,10,109,97,114,107,32,50,10,100,111,110,101,32,49,10,117,110,108,111,99,107,58,10,108,111,97,100,32,114,52,32,49,32,114,49,10,98,110,101,32,114,52,32,114,48,32,104,97,110,100,10,99,97,115,32,114,53,32,48,32,114,48,32,114,50,32,114,48,10,98,101,113,32,114,53,32,114,48,32,108,105,110,107,10,109,97,114,107,32,52,10,100,111,110,101,32,50,10,108,105,110,107,58,10,97,119,97,105,116,32,114,52,32,49,32,114,49,32,110,101,32,114,48,10,104,97,110,100,58,10,97,100,100,107,32,114,52,32,114,52,32,52,50,57,52,57,54,55,50,57,53,10,115,116,111,114,101,32,50,32,114,52,32,114,48,10,109,97,114,107,32,52,10,100,111,110,101,32,50,10]⟩
def mU:ByteArray:=⟨#[108,111,99,107,58,10,115,101,108,102,32,114,49,10,97,100,100,107,32,114,50,32,114,49,32,50,10,99,111,110,115,116,32,114,51,32,49,10,97,103,97,105,110,58,10,108,111,97,100,32,114,52,32,48,32,114,48,10,98,110,101,32,114,52,32,114,48,32,113,117,101,117,101,10,99,97,115,32,114,53,32,48,32,114,48,32,114,48,32,114,51,10,98,101,113,32,114,53,32,114,48,32,97,103,97,105,110,10,109,97,114,107,32,49,10,109,97,114,107,32,50,10,100,111,110,101,32,49,10,113,117,101,117,101,58,10,115,116,111,114,101,32,50,32,114,49,32,114,48,10,115,116,111,114,101,32,51,32,114,49,32,114,51,10,99,97,115,32,114,53,32,48,32,114,48,32,114,52,32,114,50,10,98,101,113,32,114,53,32,114,48,32,97,103,97,105,110,10,109,97,114,107,32,49,10,98,101,113,32,114,52,32,114,51,32,102,105,114,115,116,10,97,100,100,107,32,114,52,32,114,52,32,52,50,57,52,57,54,55,50,57,52,10,115,116,111,114,101,32,50,32,114,52,32,114,50,10,106,117,109,112,32,119,97,105,116,10,102,105,114,115,116,58,10,115,116,111,114,101,32,49,32,114,48,32,114,50,10,119,97,105,116,58,10,97,119,97,105,116,32,114,53,32,51,32,114,49,32,101,113,32,114,48,10,109,97,114,107,32,50,10,108,111,97,100,32,114,52,32,50,32,114,49,10,98,110,101,32,114,52,32,114,48,32,104,97,115,10,115,116,111,114,101,32,49,32,114,48,32,114,48,10,99,97,115,32,114,53,32,48,32,114,48,32,114,50,32,114,51,10,98,110,101,32,114,53,32,114,48,32,111,117,116,10,97,119,97,105,116,32,114,52,32,50,32,114,49,32,110,101,32,114,48,10,104,97,115,58,10,115,116,111,114,101,32,49,32,114,48,32,114,52,10,111,117,116,58,10,100,111,110,101,32,49,10,117,110,108,111,99,107,58,10,108,111,97,100,32,114,52,32,49,32,114,48,10,98,110,101,32,114,52,32,114,48,32,104,97,110,100,10,99,111,110,115,116,32,114,51,32,49,10,99,97,115,32,114,53,32,48,32,114,48,32,114,51,32,114,48,10,98,101,113,32,114,53,32,114,48,32,98,101,104,105,110,100,10,109,97,114,107,32,52,10,100,111,110,101,32,50,10,98,101,104,105,110,100,58,10,97,119,97,105,116,32,114,52,32,49,32,114,48,32,110,101,32,114,48,10,104,97,110,100,58,10,97,100,100,107,32,114,52,32,114,52,32,52,50,57,52,57,54,55,50,57,52,10,115,116,111,114,101,32,51,32,114,52,32,114,48,10,109,97,114,107,32,52,10,100,111,110,101,32,50,10]⟩
def gY:ByteArray:=⟨#[108,111,99,107,58,10,116,97,107,101,32,114,55,10,98,101,113,32,114,55,32,114,48,32,102,117,108,108,10,115,116,111,114,101,32,49,32,114,55,32,114,48,10,115,119,97,112,32,114,54,32,48,32,114,48,32,114,55,10,109,97,114,107,32,49,10,108,111,111,107,58,10,99,111,110,115,116,32,114,49,32,49,10,97,119,97,105,116,32,114,50,32,49,32,114,54,32,110,101,32,114,48,32,101,108,115,101,32,108,101,97,118,101,10,98,101,113,32,114,50,32,114,49,32,103,111,116,10,102,114,101,101,32,114,54,10,97,100,100,107,32,114,54,32,114,50,32,52,50,57,52,57,54,55,50,57,52,10,106,117,109,112,32,108,111,111,107,10,103,111,116,58,10,109,97,114,107,32,50,10,102,114,101,101,32,114,54,10,100,111,110,101,32,49,10,108,101,97,118,101,58,10,99,97,115,32,114,51,32,48,32,114,48,32,114,55,32,114,54,10,98,101,113,32,114,51,32,114,48,32,115,116,97,121,10,109,97,114,107,32,51,10,102,114,101,101,32,114,55,10,100,111,110,101,32,48,10,115,116,97,121,58,10,97,100,100,107,32,114,51,32,114,54,32,50,10,115,116,111,114,101,32,49,32,114,55,32,114,51,10,109,97,114,107,32,51,10,100,111,110,101,32,48,10,102,117,108,108,58,10,100,111,110,101,32,51,10,117,110,108,111,99,107,58,10,99,111,110,115,116,32,114,49,32,49,10,115,116,111,114,101,32,49,32,114,55,32,114,49,10,109,97,114,107,32,52,10,100,111,110,101,32,50,10]⟩
def gZ:ByteArray:=⟨#[108,111,99,107,58,10,116,97,107,101,32,114,55,10,98,101,113,32,114,55,32,114,48,32,102,117,108,108,10,115,116,111,114,101,32,49,32,114,55,32,114,48,10,115,116,111,114,101,32,50,32,114,55,32,114,48,10,115,119,97,112,32,114,54,32,48,32,114,48,32,114,55,10,109,97,114,107,32,49,10,98,101,113,32,114,54,32,114,48,32,103,111,116,10,115,116,111,114,101,32,49,32,114,54,32,114,55,10,99,111,110,115,116,32,114,49,32,49,10,97,119,97,105,116,32,114,50,32,50,32,114,55,32,101,113,32,114,49,32,101,108,115,101,32,108,101,97,118,101,10,103,111,116,58,10,109,97,114,107,32,50,10,100,111,110,101,32,49,10,108,101,97,118,101,58,10,99,111,110,115,116,32,114,51,32,50,10,99,97,115,32,114,52,32,50,32,114,55,32,114,48,32,114,51,10,98,101,113,32,114,52,32,114,48,32,103,111,116,10,109,97,114,107,32,51,10,100,111,110,101,32,48,10,102,117,108,108,58,10,100,111,110,101,32,51,10,117,110,108,111,99,107,58,10,108,111,97,100,32,114,54,32,49,32,114,55,10,98,110,101,32,114,54,32,114,48,32,104,97,110,100,10,99,97,115,32,114,52,32,48,32,114,48,32,114,55,32,114,48,10,98,101,113,32,114,52,32,114,48,32,108,105,110,107,10,109,97,114,107,32,52,10,102,114,101,101,32,114,55,10,100,111,110,101,32,50,10,108,105,110,107,58,10,97,119,97,105,116,32,114,54,32,49,32,114,55,32,110,101,32,114,48,10,104,97,110,100,58,10,99,111,110,115,116,32,114,49,32,49,10,99,97,115,32,114,52,32,50,32,114,54,32,114,48,32,114,49,10,98,101,113,32,114,52,32,114,48,32,115,107,105,112,10,109,97,114,107,32,52,10,102,114,101,101,32,114,55,10,100,111,110,101,32,50,10,115,107,105,112,58,10,102,114,101,101,32,114,55,10,109,111,118,101,32,114,55,32,114,54,10,106,117,109,112,32,117,110,108,111,99,107,10]⟩
theorem GY (w:World):Calls Tryz.prog 160 #[] w fun e w'=>e= .returned (.string kS)∧w=w':=by
 go_enter Tryz.func160,Tryz.ntmps160
 go_wp2
 go_ret
 exact ⟨rfl,rfl⟩
theorem BQ (w:World):Calls Tryz.prog 162 #[] w fun e w'=>e= .returned (.string jL)∧w=w':=by
 go_enter Tryz.func162,Tryz.ntmps162
 go_wp2
 go_ret
 exact ⟨rfl,rfl⟩
theorem UJ (w:World):Calls Tryz.prog 163 #[] w fun e w'=>e= .returned (.string qW)∧w=w':=by
 go_enter Tryz.func163,Tryz.ntmps163
 go_wp2
 go_ret
 exact ⟨rfl,rfl⟩
theorem UB (w:World):Calls Tryz.prog 164 #[] w fun e w'=>e= .returned (.string lJ)∧w=w':=by
 go_enter Tryz.func164,Tryz.ntmps164
 go_wp2
 go_ret
 exact ⟨rfl,rfl⟩
theorem P7 (w:World):Calls Tryz.prog 165 #[] w fun e w'=>e= .returned (.string mU)∧w=w':=by
 go_enter Tryz.func165,Tryz.ntmps165
 go_wp2
 go_ret
 exact ⟨rfl,rfl⟩
theorem s9 (w:World):Calls Tryz.prog 166 #[] w fun e w'=>e= .returned (.string gY)∧w=w':=by
 go_enter Tryz.func166,Tryz.ntmps166
 go_wp2
 go_ret
 exact ⟨rfl,rfl⟩
theorem F0 (w:World):Calls Tryz.prog 167 #[] w fun e w'=>e= .returned (.string gZ)∧w=w':=by
 go_enter Tryz.func167,Tryz.ntmps167
 go_wp2
 go_ret
 exact ⟨rfl,rfl⟩
end Go.Proofs.YtjopodnlffaogaaGreatDoor.Tp
end
section
namespace Go.Proofs.YtjopodnlffaogaaGreatDoor.Tp
section
variable {P:Program} {ops:Array Oper} {Q:Exit→Act→World→Prop}
def xB (o:Oper) (j:Nat):Bool:=o.after.any fun e=>Region.binds .any e&&e.on==j
structure l4 (ops:Array Oper) (a:Act) (T:Nat→Value→World→Prop) (J:World→Prop) (o:Oper) (a':Act) (w':World):Prop where
 inv:J w'
 defers:a'.defers=a.defers
 out:∀ s,(ops.all fun o'=>o'.dst != some s)=true→a'.tmps[s]?=a.tmps[s]?
 dep:∀ j s,xB o j=true→(ops[j]?).bind (·.dst)=some s→∃ v,a'.tmps[s]?=some v∧T j v w'
 dep0:∀ j,xB o j=true→(ops[j]?).isSome=true→∃ v,T j v w'
def Ob (P:Program) (ops:Array Oper) (Q:Exit→Act→World→Prop) (a:Act) (T:Nat→Value→World→Prop) (J:World→Prop) (i:Nat) (o:Oper):Prop:=
 ∀ a' w',l4 ops a T J o a' w'→if Region.wanted o (yielded ops a'.tmps)=true then o.wp P a' w' (fun a'' w''=>∃ v,a''=a'.put o.dst v∧J w''∧T i v w''∧∀ j u,T j u w'→T j u w'') Q else T i undef w'
def V3 (P:Program) (ops:Array Oper) (Q:Exit→Act→World→Prop) (a:Act) (T:Nat→Value→World→Prop) (J:World→Prop):Nat→List Oper→Prop
 |_,[]=>True
 |i,o :: l=>Ob P ops Q a T J i o∧V3 P ops Q a T J (i+1) l
theorem KN {a:Act} {T:Nat→Value→World→Prop} {J:World→Prop} :∀ {l:List Oper} {k:Nat},V3 P ops Q a T J k l→∀ {m:Nat} {o:Oper},l[m]?=some o→Ob P ops Q a T J (k+m) o
 | [],k,_,m,o,ho=>by simp at ho
 |x :: l,k,h,0,o,ho=>by
  simp at ho
  subst ho
  exact h.1
 |x :: l,k,h,m+1,o,ho=>by
  have:=KN h.2 (m:=m) (by simpa using ho)
  rw [show k+(m+1)=k+1+m by omega]
  exact this
def iY (a:Act):List Oper→Nat→(Nat→Value)→Act
 | [],_,_=>a
 |o :: l,k,vs=>iY (a.put o.dst (vs k)) l (k+1) vs
theorem E0 (a:Act) (d:Option Tmp) (v:Value):(a.put d v).tmps.size=a.tmps.size:=by
 cases d <;> simp [Act.put]
theorem wB (a:Act) (d:Option Tmp) (v:Value) (s:Nat):(a.put d v).tmps[s]?=if d=some s∧s<a.tmps.size then some v else a.tmps[s]?:=by
 cases d with
 |none=>simp [Act.put]
 |some t=>
  simp only [Act.put,Option.some.injEq]
  by_cases h:t=s
  ·subst h
   by_cases h2:t<a.tmps.size
   ·simp [h2]
   ·simp [h2]
  ·rw [Array.getElem?_setIfInBounds_ne h,if_neg (fun h2=>h h2.1)]
theorem put_defers (a:Act) (d:Option Tmp) (v:Value):(a.put d v).defers=a.defers:=by
 cases d <;> rfl
theorem tO:∀ (l:List Oper) (a:Act) (k:Nat) (vs:Nat→Value),(iY a l k vs).defers=a.defers
 | [],a,k,vs=>rfl
 |o :: l,a,k,vs=>by rw [iY,tO,put_defers]
theorem wK:∀ (l:List Oper) (a:Act) (k:Nat) (vs:Nat→Value) (s:Nat),(∀ o∈l,o.dst≠some s)→(iY a l k vs).tmps[s]?=a.tmps[s]?
 | [],a,k,vs,s,_=>rfl
 |o :: l,a,k,vs,s,h=>by
  rw [iY,wK l _ _ _ s (fun o ho=>h o (List.mem_cons_of_mem _ ho)),wB,if_neg (fun h2=>h o List.mem_cons_self h2.1)]
theorem LU:∀ (l:List Oper) (a:Act) (k:Nat) (vs:Nat→Value) (s m:Nat) (o:Oper),l[m]?=some o→o.dst=some s→s<a.tmps.size→(∀ m' o',l[m']?=some o'→o'.dst=some s→m'=m)→(iY a l k vs).tmps[s]?=some (vs (k+m))
 | [],a,k,vs,s,m,o,h,_,_,_=>by simp at h
 |x :: l,a,k,vs,s,0,o,h,hd,hs,hu=>by
  simp at h
  subst h
  rw [iY,wK l _ _ _ s (fun o' ho' hd'=>by
   obtain ⟨m,hm⟩:=List.getElem?_of_mem ho'
   have:=hu (m+1) o' (by simpa using hm) hd'
   omega),wB,if_pos ⟨hd,hs⟩]
  rfl
 |x :: l,a,k,vs,s,m+1,o,h,hd,hs,hu=>by
  rw [iY,LU l _ _ _ s m o (by simpa using h) hd (by rw [E0];exact hs) (fun m' o' h1 h2=>by
   have:=hu (m'+1) o' (by simpa using h1) h2
   omega)]
  rw [show k+1+m=k+(m+1) by omega]
def BS (ops:Array Oper) (n:Nat):Bool:=(List.range ops.size).all fun j=>match ops[j]? with
 |some o=>(o.after.all fun e=>!Region.binds .any e || Nat.blt e.on j)&&(match o.dst with
  |some s=>Nat.blt s n&&(List.range ops.size).all fun k=>Nat.beq k j || (match ops[k]? with
   |some o'=>o'.dst != some s
   |none=>true)
  |none=>true)
 |none=>true
structure JH (ops:Array Oper) (n:Nat):Prop where
 back:∀ (j:Nat) (o:Oper),ops[j]?=some o→∀ e∈o.after,Region.binds .any e=true→e.on<j
 lt:∀ (j:Nat) (o:Oper) (s:Nat),ops[j]?=some o→o.dst=some s→s<n
 once:∀ (j k:Nat) (o o':Oper) (s:Nat),ops[j]?=some o→ops[k]?=some o'→o.dst=some s→o'.dst=some s→k=j
theorem DV {n:Nat} (h:BS ops n=true):JH ops n:=by
 have h1:∀ j o,ops[j]?=some o→_:=fun j o hj=>List.all_eq_true.1 h j (List.mem_range.2 (Array.getElem?_eq_some_iff.1 hj).1)
 refine ⟨fun j o hj e he hb=>?_,fun j o s hj hd=>?_,fun j k o o' s hj hk hd hd'=>?_⟩
 ·have:=h1 j o hj
  simp only [hj,Bool.and_eq_true] at this
  have:=Array.all_eq_true_iff_forall_mem.1 this.1 e he
  simpa [hb,Nat.blt_eq] using this
 ·have:=h1 j o hj
  simp only [hj,hd,Bool.and_eq_true,Nat.blt_eq] at this
  exact this.2.1
 ·have:=h1 j o hj
  simp only [hj,hd,Bool.and_eq_true,Nat.blt_eq] at this
  have:=List.all_eq_true.1 this.2.2 k (List.mem_range.2 (Array.getElem?_eq_some_iff.1 hk).1)
  simp only [hk,Bool.or_eq_true] at this
  rcases this with h2|h2
  ·exact Nat.eq_of_beq_eq_true h2
  ·simp [hd'] at h2
structure Sty (ops:Array Oper) (a:Act) (T:Nat→Value→World→Prop) (J:World→Prop) (listed:Array Bool) (a':Act) (w':World):Prop where
 inv:J w'
 defers:a'.defers=a.defers
 size:a'.tmps.size=a.tmps.size
 lsize:listed.size=ops.size
 out:∀ s,(∀ j o,ops[j]?=some o→listed.getD j false=true→o.dst≠some s)→a'.tmps[s]?=a.tmps[s]?
 vals:∀ j o,ops[j]?=some o→listed.getD j false=true→∃ v,(∀ s,o.dst=some s→a'.tmps[s]?=some v)∧T j v w'
theorem xW {l:Array Bool} {j:Nat} (h:j<l.size):l.getD j true=l.getD j false:=by simp [h]
theorem Sty.OZ {a:Act} {T:Nat→Value→World→Prop} {J:World→Prop} {listed:Array Bool} {a':Act} {w':World} (h:Sty ops a T J listed a' w') {o:Oper} (hd:∀ e∈o.after,Region.binds .any e=true→listed.getD e.on false=true):l4 ops a T J o a' w':=by
 have key:∀ j,xB o j=true→listed.getD j false=true:=fun j hj=>by
  obtain ⟨e,he,h1⟩:=Array.any_eq_true'.1 hj
  simp only [Bool.and_eq_true,beq_iff_eq] at h1
  rw [← h1.2]
  exact hd e he h1.1
 refine ⟨h.inv,h.defers,fun s hs=>h.out s fun j o' hj _ hd'=>?_,fun j s hj hs=>?_,fun j hj hs=>?_⟩
 ·have hm:o'∈ops:=Array.mem_of_getElem? hj
  have:=Array.all_eq_true_iff_forall_mem.1 hs o' hm
  simp [hd'] at this
 ·cases ho:ops[j]? with
  |none=>rw [ho] at hs;cases hs
  |some o'=>
   rw [ho] at hs
   obtain ⟨v,h1,h2⟩:=h.vals j o' ho (key j hj)
   exact ⟨v,h1 s hs,h2⟩
 ·cases ho:ops[j]? with
  |none=>rw [ho] at hs;cases hs
  |some o'=>
   obtain ⟨v,h1,h2⟩:=h.vals j o' ho (key j hj)
   exact ⟨v,h2⟩
def left (n:Nat) (listed:Array Bool):Nat:=(List.range n).countP fun j=>!listed.getD j false
theorem RV {n i:Nat} {listed:Array Bool} (hi:i<n) (hl:i<listed.size) (hun:listed.getD i false=false):left n (listed.setIfInBounds i true)+1=left n listed:=by
 unfold left
 induction n with
 |zero=>omega
 |succ n ih=>
  rw [List.range_succ,List.countP_append,List.countP_append]
  by_cases h:i=n
  ·subst h
   have e:(List.range i).countP (fun j=>!(listed.setIfInBounds i true).getD j false)=(List.range i).countP (fun j=>!listed.getD j false):=by
    apply List.countP_congr
    intro j hj
    have hji:=List.mem_range.1 hj
    rw [getD_set_ne false (by omega)]
   rw [e]
   have e1:(listed.setIfInBounds i true).getD i false=true:=by simp [hl]
   simp only [List.countP_cons,List.countP_nil,e1,hun]
   simp
  ·have:=ih (by omega)
   have e1:(listed.setIfInBounds i true).getD n false=listed.getD n false:=getD_set_ne false h
   simp only [List.countP_cons,List.countP_nil,e1]
   omega
theorem GU {n:Nat} {listed:Array Bool} (h:left n listed=0):∀ j,j<n→listed.getD j false=true:=fun j hj=>by
 unfold left at h
 rw [List.countP_eq_zero] at h
 have:=h j (List.mem_range.2 hj)
 simpa using this
theorem DC {n:Nat} (hS:JH ops n) {listed:Array Bool} (hl:listed.size=ops.size) (hr:Region.ready .any ops listed= []):∀ j,j<ops.size→listed.getD j false=true:=by
 intro j
 induction j using Nat.strongRecOn with
 |_ j ih=>
  intro hj
  cases hq:listed.getD j false with
  |true=>rfl
  |false=>
   exfalso
   have ho:ops[j]?=some ops[j]:=Array.getElem?_eq_getElem hj
   have:j∈Region.ready .any ops listed:=mem_ready.2 ⟨by rw [xW (by omega)];exact hq,ops[j],ho,fun e he hb=>ih e.on (hS.back j _ ho e he hb) (by have:=hS.back j _ ho e he hb;omega)⟩
   rw [hr] at this
   cases this
theorem U3 {a:Act} {T:Nat→Value→World→Prop} {J:World→Prop} {i:Nat} {o:Oper} (hg:o.guard=none) (h:∀ a' w',l4 ops a T J o a' w'→∃ v w'',(execOp a'.eval o).run P w'= .ok (.value v) w''∧J w''∧T i v w''∧∀ j u,T j u w'→T j u w''):Ob P ops Q a T J i o:=by
 intro a' w' hs
 have hw:Region.wanted o (yielded ops a'.tmps)=true:=by simp [Region.wanted,hg]
 rw [if_pos hw]
 obtain ⟨v,w'',h1,h2,h3,h4⟩:=h a' w' hs
 unfold Oper.wp
 rw [h1]
 exact ⟨v,rfl,h2,h3,h4⟩
def jJ (ops:Array Oper) (j:Nat):Nat→Nat→Bool
 |0,_=>false
 |fuel+1,d=>match ops[d]? with
  |some o=>o.after.any fun e=>Region.binds .any e&&(e.on==j || jJ ops j fuel e.on)
  |none=>false
theorem oI {listed:Array Bool} (hc:∀ (j:Nat) (o:Oper),ops[j]?=some o→listed.getD j false=true→∀ e∈o.after,Region.binds .any e=true→listed.getD e.on false=true) {j:Nat} :∀ (fuel d:Nat) (o:Oper),ops[d]?=some o→(∀ e∈o.after,Region.binds .any e=true→listed.getD e.on false=true)→jJ ops j fuel d=true→listed.getD j false=true
 |0,_,_,_,_,h=>by simp [jJ] at h
 |fuel+1,d,o,ho,hd,h=>by
  unfold jJ at h
  rw [ho] at h
  obtain ⟨e,he,h1⟩:=Array.any_eq_true'.1 h
  simp only [Bool.and_eq_true,Bool.or_eq_true,beq_iff_eq] at h1
  have hle:=hd e he h1.1
  rcases h1.2 with h2|h2
  ·rw [← h2];exact hle
  ·cases ho2:ops[e.on]? with
   |none=>
    cases fuel with
    |zero=>simp [jJ] at h2
    |succ n=>unfold jJ at h2;rw [ho2] at h2;cases h2
   |some o2=>exact oI hc fuel e.on o2 ho2 (fun e' he' hb'=>hc e.on o2 ho2 hle e' he' hb') h2
theorem zF {a:Act} {T:Nat→Value→World→Prop} {J:World→Prop} {init:List Oper} {last:Oper} (hops:ops.toList=init++ [last]) (hS:JH ops a.tmps.size) (hlast:∀ j,j<init.length→jJ ops j ops.size init.length=true) (hob:∀ i o,init[i]?=some o→Ob P ops Q a T J i o) (hg:last.guard=none)
  (hcont:∀ (vs:Nat→Value) w',J w'→(∀ i o,init[i]?=some o→T i (vs i) w')→last.wp P (iY a init 0 vs) w' (fun a'' w''=>Q .normal a'' w'') Q):
  ∀ (fuel:Nat) (listed:Array Bool) (a':Act) (w':World),left ops.size listed≤fuel→listed.getD init.length false=false→(∀ (j:Nat) (o:Oper),ops[j]?=some o→listed.getD j false=true→∀ e∈o.after,Region.binds .any e=true→listed.getD e.on false=true)→Sty ops a T J listed a' w'→wpAny P .any ops Q fuel listed a' w':=by
 have hsz:ops.size=init.length+1:=by
  have:=congrArg List.length hops
  simpa using this
 have hat:∀ m,ops[m]?=(init++ [last])[m]?:=fun m=>by rw [← Array.getElem?_toList,hops]
 have hatI:∀ m o,init[m]?=some o→ops[m]?=some o:=fun m o h=>by
  rw [hat,List.getElem?_append_left (List.getElem?_eq_some_iff.1 h).1];exact h
 have hatL:ops[init.length]?=some last:=by rw [hat];simp
 have hback:∀ m o,ops[m]?=some o→m≠init.length→init[m]?=some o:=fun m o h hne=>by
  have hlt:=(Array.getElem?_eq_some_iff.1 h).1
  rw [hat,List.getElem?_append_left (by omega)] at h
  exact h
 intro fuel
 induction fuel with
 |zero=>
  intro listed a' w' hle hun _ h
  have hall:=GU (n:=ops.size) (listed:=listed) (by omega) init.length (by omega)
  rw [hall] at hun
  cases hun
 |succ fuel ih=>
  intro listed a' w' hle hun hcl h
  refine ⟨fun hr=>?_,fun i hi=>?_⟩
  ·have:=DC hS h.lsize hr init.length (by omega)
   rw [this] at hun
   cases hun
  obtain ⟨h0,o,ho,hd⟩:=mem_ready.1 hi
  have hlt:=(Array.getElem?_eq_some_iff.1 ho).1
  have huni:listed.getD i false=false:=by rw [← xW (by rw [h.lsize];exact hlt)];exact h0
  have hlt2:i<listed.size:=by rw [h.lsize];exact hlt
  by_cases hil:i=init.length
  ·subst hil
   rw [hatL] at ho
   cases ho
   have hall:∀ j,j<init.length→listed.getD j false=true:=fun j hj=>oI hcl _ _ _ hatL hd (hlast j hj)
   have hv:∀ j:Nat,∃ v:Value,∀ o:Oper,init[j]?=some o→(∀ s,o.dst=some s→a'.tmps[s]?=some v)∧T j v w':=fun j=>by
    cases hj:init[j]? with
    |none=>exact ⟨undef,fun o h=>by cases h⟩
    |some o=>
     obtain ⟨v,h1,h2⟩:=h.vals j o (hatI j o hj) (hall j (List.getElem?_eq_some_iff.1 hj).1)
     exact ⟨v,fun o' ho'=>by cases ho';exact ⟨h1,h2⟩⟩
   have e1:a'.tmps=(iY a init 0 fun j=>Classical.choose (hv j)).tmps:=by
    apply Array.ext_getElem?
    intro s
    by_cases hs:∃ (j:Nat) (o:Oper),init[j]?=some o∧o.dst=some s
    ·obtain ⟨j,o,ho,hds⟩:=hs
     rw [(Classical.choose_spec (hv j) o ho).1 s hds,LU init a 0 _ s j o ho hds (hS.lt j o s (hatI j o ho) hds) (fun m' o' h1 h2=>hS.once j m' o o' s (hatI j o ho) (hatI m' o' h1) hds h2),Nat.zero_add]
    ·rw [h.out s fun j o ho hl hds=>hs ⟨j,o,hback j o ho (fun e=>by rw [e,hun] at hl;cases hl),hds⟩,wK]
     intro o ho hds
     obtain ⟨m,hm⟩:=List.getElem?_of_mem ho
     exact hs ⟨m,o,hm,hds⟩
   have e2:a'.defers=(iY a init 0 fun j=>Classical.choose (hv j)).defers:=by rw [tO];exact h.defers
   have e:a'=iY a init 0 fun j=>Classical.choose (hv j):=by
    cases a'
    generalize iY a init 0 (fun j=>Classical.choose (hv j))=b at e1 e2
    cases b
    simp only at e1 e2
    rw [e1,e2]
   have hC:=hcont (fun j=>Classical.choose (hv j)) w' h.inv fun j o hj=>(Classical.choose_spec (hv j) o hj).2
   rw [← e] at hC
   unfold wpOp
   simp only [hatL]
   have hw:Region.wanted last (yielded ops a'.tmps)=true:=by simp [Region.wanted,hg]
   rw [if_pos hw]
   refine .inl (Oper.wp_mono (fun a'' w'' hq=>?_) hC)
   refine wpAny_done ?_ hq fuel
   rw [List.eq_nil_iff_forall_not_mem]
   intro j hj
   obtain ⟨h0,o,ho,_⟩:=mem_ready.1 hj
   have hjlt:=(Array.getElem?_eq_some_iff.1 ho).1
   by_cases hji:init.length=j
   ·subst hji
    simp [hlt2] at h0
   ·rw [getD_set_ne true hji,xW (by rw [h.lsize];exact hjlt),hall j (by omega)] at h0
    cases h0
  ·have hoi:=hback i o ho hil
   have next:∀ v w'',J w''→T i v w''→(∀ j u,T j u w'→T j u w'')→wpAny P .any ops Q fuel (listed.setIfInBounds i true) (a'.put o.dst v) w'':=fun v w'' hJ hT hmono=>by
    refine ih _ _ _ (by have:=RV hlt hlt2 huni;omega) (by rw [getD_set_ne false hil];exact hun) (fun j o' hj hl e he hb=>?_) ⟨hJ,by rw [put_defers];exact h.defers,by rw [E0];exact h.size,by simp [h.lsize],fun s hs=>?_,fun j o' hj hl=>?_⟩
    ·by_cases hij:i=j
     ·subst hij
      rw [ho] at hj
      cases hj
      exact getD_set_true (hd e he hb)
     ·rw [getD_set_ne false hij] at hl
      exact getD_set_true (hcl j o' hj hl e he hb)
    ·rw [wB,if_neg (fun hh=>hs i o ho (by simp [hlt2]) hh.1)]
     refine h.out s fun j o' hj hl=>hs j o' hj ?_
     exact getD_set_true hl
    ·by_cases hij:i=j
     ·subst hij
      rw [ho] at hj
      cases hj
      refine ⟨v,fun s hds=>?_,hT⟩
      rw [wB,if_pos ⟨hds,by rw [h.size];exact hS.lt i o s ho hds⟩]
     ·rw [getD_set_ne false hij] at hl
      obtain ⟨u,h1,h2⟩:=h.vals j o' hj hl
      refine ⟨u,fun s hds=>?_,hmono j u h2⟩
      rw [wB,if_neg (fun hh=>hij (hS.once j i o' o s hj ho hds hh.1))]
      exact h1 s hds
   have hO:=hob i o hoi a' w' (h.OZ hd)
   unfold wpOp
   simp only [ho]
   split
   ·rename_i hw
    rw [if_pos hw] at hO
    refine .inl (Oper.wp_mono ?_ hO)
    rintro a'' w'' ⟨v,rfl,h1,h2,h3⟩
    exact next v w'' h1 h2 h3
   ·rename_i hw
    rw [if_neg hw] at hO
    exact next undef w' h.inv hO fun _ _ hu=>hu
def UZ (ops:Array Oper) (n:Nat):Bool:=(List.range n).all fun j=>jJ ops j ops.size n
theorem rN {id:Nat} {a:Act} {w:World} (hm:P.follows .mixedOrders=true) {init:List Oper} {last:Oper} (hops:ops.toList=init++ [last]) (T:Nat→Value→World→Prop) (J:World→Prop) (hok:BS ops a.tmps.size=true) (hl:UZ ops init.length=true) (hg:last.guard=none) (hJ:J w.drew) (hob:V3 P ops Q a T J 0 init)
  (hcont:∀ (vs:Nat→Value) w',J w'→(∀ i o,init[i]?=some o→T i (vs i) w')→last.wp P (iY a init 0 vs) w' (fun a'' w''=>Q .normal a'' w'') Q):(Code.region id ops true).wp P Q a w:=by
 refine wp_region_any hm ?_
 refine zF hops (DV hok) (fun j hj=>List.all_eq_true.1 hl j (List.mem_range.2 hj)) (fun i o ho=>?_) hg hcont _ _ _ _ ?_ ?_ ?_ ⟨hJ,rfl,rfl,by simp,fun s _=>rfl,fun j o hj hl=>?_⟩
 ·have:=KN hob ho
  rwa [Nat.zero_add] at this
 ·unfold left
  refine Nat.le_trans (List.countP_le_length) (by simp)
 ·by_cases hlt:init.length<ops.size <;> simp [Array.getD_eq_getD_getElem?,hlt]
 ·intro j o hj hl
  have hlt:=(Array.getElem?_eq_some_iff.1 hj).1
  simp [hlt] at hl
 ·have hlt:=(Array.getElem?_eq_some_iff.1 hj).1
  simp [hlt] at hl
end
end Go.Proofs.YtjopodnlffaogaaGreatDoor.Tp
end
section
namespace Go.Proofs.YtjopodnlffaogaaGreatDoor.Tp
open Go.RowKit Go.Proofs.YtjopodnlffaogaaGreatDoorW.PrintWords Go.Proofs.YtjopodnlffaogaaGreatDoorW.PrintLast Go.Proofs.YtjopodnlffaogaaGreatDoorW.PrintMore
inductive lF (B:Nat) (w:World):List Nat→List Obj→Prop
 |nil:lF B w [] []
 |cons {g:Nat} {o:Obj} {gs:List Nat} {os:List Obj} (h:w.heap[g]?=some o) (hlt:B<g) (ht:lF B w gs os):lF B w (g :: gs) (o :: os)
theorem lF.mono {B:Nat} {w w':World} (h:∀ (g:Nat) (o:Obj),w.heap[g]?=some o→w'.heap[g]?=some o) {gs:List Nat} {os:List Obj} (hb:lF B w gs os):lF B w' gs os:=by
 induction hb with
 |nil=>exact .nil
 |cons h1 h2 _ ih=>exact .cons (h _ _ h1) h2 ih
abbrev H8:=(List Nat→Value) × List Obj
def DT (B:Nat) (ds:List H8) (j:Nat) (v:Value) (w:World):Prop:=match ds[j]? with
 |some d=>∃ gs,v=d.1 gs∧lF B w gs d.2
 |none=>True
theorem DT.mono {B:Nat} {ds:List H8} {w w':World} (h:∀ (g:Nat) (o:Obj),w.heap[g]?=some o→w'.heap[g]?=some o) {j:Nat} {v:Value} (hd:DT B ds j v w):DT B ds j v w':=by
 unfold DT at*
 split
 ·rename_i d hq
  rw [hq] at hd
  obtain ⟨gs,h1,h2⟩:=hd
  exact ⟨gs,h1,h2.mono h⟩
 ·trivial
structure DJ (w:World) (o:Obj) (w':World):Prop where
 below:Below w.heap.size w w'
 at_:w'.heap[w.heap.size]?=some o
theorem DJ.alloc {w w':World} {o:Obj} (h:DJ w o w') (p:Obj):DJ w o (w'.alloc p):=⟨aD h.below p,aV h.at_ p⟩
section
variable {P:Program} {ops:Array Oper} {Q:Exit→Act→World→Prop} {a:Act} {w:World} {z:Obj} {ds:List H8} {i:Nat} {o:Oper} {a':Act} {w':World}
theorem l4.val {J:World→Prop} (hs:l4 ops a (DT w.heap.size ds) J o a' w') (j s:Nat) (hw:xB o j=true) (hd:(ops[j]?).bind (·.dst)=some s) {v:Value} (hv:ds[j]?=some (fun _=>v,[])):a'.tmps[s]?=some v:=by
 obtain ⟨u,h1,h2⟩:=hs.dep j s hw hd
 unfold DT at h2
 rw [hv] at h2
 obtain ⟨gs,rfl,_⟩:=h2
 exact h1
theorem l4.own {T:Nat→Value→World→Prop} {J:World→Prop} (hs:l4 ops a T J o a' w') (s:Nat) (hn:(ops.all fun o'=>o'.dst != some s)=true) {v:Value} (hv:a.tmps[s]?=some v):a'.tmps[s]?=some v:=(hs.out s hn).trans hv
theorem l4.D5 (hs:l4 ops a (DT w.heap.size ds) (DJ w z) o a' w') (j s:Nat) (hw:xB o j=true) (hd:(ops[j]?).bind (·.dst)=some s) {d:H8} (hv:ds[j]?=some d):∃ gs,a'.tmps[s]?=some (d.1 gs)∧lF w.heap.size w' gs d.2:=by
 obtain ⟨u,h1,h2⟩:=hs.dep j s hw hd
 unfold DT at h2
 rw [hv] at h2
 obtain ⟨gs,rfl,h3⟩:=h2
 exact ⟨gs,h1,h3⟩
theorem bZ {v:Value} (hg:o.guard=none) (hT:ds[i]?=some (fun _=>v,[])) (h:∀ a' w',l4 ops a (DT w.heap.size ds) (DJ w z) o a' w'→(execOp a'.eval o).run P w'= .ok (.value v) w'):Ob P ops Q a (DT w.heap.size ds) (DJ w z) i o:=
 U3 hg fun a' w' hs=>⟨v,w',h a' w' hs,hs.inv,by unfold DT;rw [hT];exact ⟨[],rfl,.nil⟩,fun _ _ hu=>hu⟩
theorem sF {d:H8} (hg:o.guard=none) (hT:ds[i]?=some d) (h:∀ a' w',l4 ops a (DT w.heap.size ds) (DJ w z) o a' w'→∃ gs,(execOp a'.eval o).run P w'= .ok (.value (d.1 gs)) w'∧lF w.heap.size w' gs d.2):Ob P ops Q a (DT w.heap.size ds) (DJ w z) i o:=
 U3 hg fun a' w' hs=>by
  obtain ⟨gs,h1,h2⟩:=h a' w' hs
  exact ⟨_,w',h1,hs.inv,by unfold DT;rw [hT];exact ⟨gs,rfl,h2⟩,fun _ _ hu=>hu⟩
theorem cZ {f:List Nat→Value} {p:Obj} (hg:o.guard=none) (hT:ds[i]?=some (f,[p])) (h:∀ a' w',l4 ops a (DT w.heap.size ds) (DJ w z) o a' w'→(execOp a'.eval o).run P w'= .ok (.value (f [w'.heap.size])) (w'.alloc p)):Ob P ops Q a (DT w.heap.size ds) (DJ w z) i o:=
 U3 hg fun a' w' hs=>⟨_,_,h a' w' hs,hs.inv.alloc p,by
  unfold DT
  rw [hT]
  exact ⟨[w'.heap.size],rfl,.cons (bF w' p) (aZ hs.inv.at_) .nil⟩,fun j u hu=>DT.mono (fun g q hq=>aV hq p) hu⟩
theorem aW {T:Nat→Value→World→Prop} {J:World→Prop} {k:Nat} {l:List Oper} (h:Ob P ops Q a T J k o) (ht:V3 P ops Q a T J (k+1) l):V3 P ops Q a T J k (o :: l):=⟨h,ht⟩
theorem pK {T:Nat→Value→World→Prop} {J:World→Prop} {k:Nat} {l:List Oper} (h:∀ Q,V3 P ops Q a T J k l):V3 P ops Q a T J k l:=h Q
theorem o6 {T:Nat→Value→World→Prop} {J:World→Prop} {k:Nat} :V3 P ops Q a T J k []:=trivial
theorem lF.one {B:Nat} {w:World} {gs:List Nat} {o:Obj} (h:lF B w gs [o]):∃ g,gs= [g]∧w.heap[g]?=some o∧B<g:=by
 cases h with
 |cons h1 h2 ht=>
  cases ht
  exact ⟨_,rfl,h1,h2⟩
theorem lF.three {B:Nat} {w:World} {gs:List Nat} {o p q:Obj} (h:lF B w gs [o,p,q]):∃ g1 g2 g3,gs= [g1,g2,g3]∧(w.heap[g1]?=some o∧B<g1)∧(w.heap[g2]?=some p∧B<g2)∧w.heap[g3]?=some q∧B<g3:=by
 cases h with
 |cons h1 h2 ht=>
  cases ht with
  |cons h3 h4 ht=>
   cases ht with
   |cons h5 h6 ht=>
    cases ht
    exact ⟨_,_,_,rfl,⟨h1,h2⟩,⟨h3,h4⟩,h5,h6⟩
theorem lF.mk3 {B:Nat} {w:World} {g1 g2 g3:Nat} {o p q:Obj} (h1:w.heap[g1]?=some o) (l1:B<g1) (h2:w.heap[g2]?=some p) (l2:B<g2) (h3:w.heap[g3]?=some q) (l3:B<g3):lF B w [g1,g2,g3] [o,p,q]:= .cons h1 l1 (.cons h2 l2 (.cons h3 l3 .nil))
def JM (B k:Nat) (ds:List H8) (vs:Nat→Value) (w':World):Prop:=∀ i d,i<k→ds[i]?=some d→∃ gs,vs i=d.1 gs∧lF B w' gs d.2
theorem JM.val {B k:Nat} {ds:List H8} {vs:Nat→Value} {w':World} (h:JM B k ds vs w') (i:Nat) (v:Value) (hi:i<k) (hd:ds[i]?=some (fun _=>v,[])):vs i=v:=by
 obtain ⟨_,h1,_⟩:=h i _ hi hd
 exact h1
theorem JM.one {B k:Nat} {ds:List H8} {vs:Nat→Value} {w':World} (h:JM B k ds vs w') (i:Nat) (f:List Nat→Value) (o:Obj) (hi:i<k) (hd:ds[i]?=some (f,[o])):∃ g,vs i=f [g]∧w'.heap[g]?=some o∧B<g:=by
 obtain ⟨gs,h1,h2⟩:=h i _ hi hd
 obtain ⟨g,rfl,h3,h4⟩:=h2.one
 exact ⟨g,h1,h3,h4⟩
theorem JM.three {B k:Nat} {ds:List H8} {vs:Nat→Value} {w':World} (h:JM B k ds vs w') (i:Nat) (f:List Nat→Value) (o p q:Obj) (hi:i<k) (hd:ds[i]?=some (f,[o,p,q])):∃ g1 g2 g3,vs i=f [g1,g2,g3]∧(w'.heap[g1]?=some o∧B<g1)∧(w'.heap[g2]?=some p∧B<g2)∧w'.heap[g3]?=some q∧B<g3:=by
 obtain ⟨gs,h1,h2⟩:=h i _ hi hd
 obtain ⟨g1,g2,g3,rfl,h3⟩:=h2.three
 exact ⟨g1,g2,g3,h1,h3⟩
theorem hZ {id k:Nat} {last:Oper} (hm:P.follows .mixedOrders=true) (hk:ops.toList.drop k= [last]) (z:Obj) (ds:List H8) {wr:World} (hok:BS ops a.tmps.size=true) (hl:UZ ops k=true) (hlen:ops.size=k+1) (hg:last.guard=none) (hJ:DJ w z wr.drew) (hob:V3 P ops Q a (DT w.heap.size ds) (DJ w z) 0 (ops.toList.take k))
  (hcont:∀ (vs:Nat→Value) w',DJ w z w'→JM w.heap.size k ds vs w'→last.wp P (iY a (ops.toList.take k) 0 vs) w' (fun a'' w''=>Q .normal a'' w'') Q):(Code.region id ops true).wp P Q a wr:=by
 have hlk:(ops.toList.take k).length=k:=by simp [hlen]
 refine rN hm (init:=ops.toList.take k) (last:=last) (by rw [← hk,List.take_append_drop]) (DT w.heap.size ds) (DJ w z) hok (by rw [hlk];exact hl) hg hJ hob fun vs w' h1 h2=>hcont vs w' h1 fun i d hi hd=>?_
 have hil:i<(ops.toList.take k).length:=by rw [hlk];exact hi
 have:=h2 i _ (List.getElem?_eq_getElem hil)
 unfold DT at this
 rw [hd] at this
 exact this
end
end Go.Proofs.YtjopodnlffaogaaGreatDoor.Tp
end
section
namespace Go.Proofs.YtjopodnlffaogaaGreatDoor.Tp
open Go.RowKit Go.Proofs.YtjopodnlffaogaaGreatDoorW.PrintWords Go.Proofs.YtjopodnlffaogaaGreatDoorW.PrintLast Go.Proofs.YtjopodnlffaogaaGreatDoorW.PrintMore
attribute [local go_sem] aU aQ aY aX aI aJ aT aN
def dX (l:List Int) (i:Nat):Int:=(l.take i).sum
theorem OC (l:List Int):dX l 0=0:=rfl
theorem o8 (l:List Int) (i:Nat) (h:i<l.length):dX l (i+1)=dX l i+l.getD i 0:=by
 unfold dX
 rw [List.take_succ_eq_append_getElem h,List.sum_append]
 simp [List.getD_eq_getElem?_getD,h]
theorem uL (l:List Int) (hl:∀ s∈l,0≤s∧s≤4096):∀ i:Nat,i≤l.length→0≤dX l i∧dX l i≤4096*(i:Int)
 |0,_=>by rw [OC];omega
 |i+1,h=>by
  have h1:=uL l hl i (by omega)
  have h2:=hl (l.getD i 0) (by rw [List.getD_eq_getElem?_getD,List.getElem?_eq_getElem (by omega)];exact List.getElem_mem _)
  rw [o8 l i (by omega)];omega
def dM (l:List Int) (i:Nat):List Int:=(List.range i).map (dX l)
theorem NT (l:List Int) (i:Nat):dM l (i+1)=dM l i++ [dX l i]:=by simp [dM,List.range_succ]
theorem oD (l:List Int) (i:Nat):(dM l i).length=i:=by simp [dM]
structure l6 (W:World) (B bm bc gc:Nat) (vs vb:Value) (szs xs:List Int):Prop where
 bI:W.heap[bm]?=some (.cells #[.pointer (some ⟨bc,0,none⟩),vs,vb] 261 (0,0))
 sizes:Kd.R (Kd.int .i64) 3 W B (fun _=>True) vs szs
 begins:Kd.R (Kd.int .i64) 3 W B (fun _=>True) vb (dM szs szs.length)
 cblk:W.heap[bc]?=some (.cells (dD gc xs.length) 310 (0,0))
 crow:W.heap[gc]?=some (.cells (cU xs) 314 (0,0))
def over (xs:List Int) (i:Nat):List Int:=xs.take i++List.replicate (xs.length - i) 0
theorem lH (xs:List Int) (i:Nat) (h:i≤xs.length):(over xs i).length=xs.length:=by simp [over];omega
theorem OH (xs:List Int):cU (over xs 0)=bL xs.length (.int .u32 0):=by simp [over,cU,bL]
theorem GV (xs:List Int):over xs xs.length=xs:=by simp [over]
theorem BD (xs:List Int) (i:Nat) (h:i<xs.length):(over xs i).set i (xs.getD i 0)=over xs (i+1):=by
 unfold over
 obtain ⟨d,hd⟩:∃ d,xs.length - i=d+1:=⟨xs.length - i - 1,by omega⟩
 have hd2:xs.length - (i+1)=d:=by omega
 rw [hd,hd2,List.replicate_succ,List.take_succ_eq_append_getElem h,List.append_assoc]
 rw [List.set_append_right _ _ (by simp;omega)]
 have:i - (xs.take i).length=0:=by simp;omega
 rw [this]
 simp [List.getD_eq_getElem?_getD,h]
theorem CU (A1 A2:Option Addr) (c1 c2:Nat) (szs xs:List Int) (w:World) (hs:Kd.C (Kd.int .i64) w A1 szs.length szs) (hsc:szs.length≤c1) (hsn:A1=none→szs= []) (hx:Kd.C (Kd.int .u32) w A2 xs.length xs) (h8:szs.length≤8) (hr:∀ s∈szs,0≤s∧s≤4096) (hsum:dX szs szs.length=xs.length) (hn:xs.length≤8192):
  Calls Tryz.prog 114 #[.slice A1 szs.length c1,.slice A2 xs.length c2] w fun e w'=>
  ∃ bm bc gc vs vb,e= .returned (.tuple #[.pointer (some ⟨bm,0,none⟩),.int .i64 0])∧Below w.heap.size w w'∧l6 w' w.heap.size bm bc gc vs vb szs xs∧w.heap.size≤bm∧w.heap.size≤bc∧w.heap.size≤gc:=by
 have HS:=aA.mk hs
 have HXC:=aA.mk hx
 have HR:=aA.mk hr
 have HSUM:=aA.mk hsum
 have e0:decide (8<(szs.length:Int))=false:=decide_eq_false (by omega)
 have CL:=aA.mk (tU A1 c1 szs w hs hsc hsn (by omega))
 clear hs hx hr hsum hsc hsn
 go_enter Tryz.func114,Tryz.ntmps114
 go_wp2_with (go_at_call 171;refine CL.out.mono ?_;rintro e w1 ⟨vs,rfl,hR,hb⟩;have SZ0:=aA.mk hR;have HB0:=aA.mk hb;obtain ⟨A3,cap3,hv3,_,_⟩:=Kd.bY hR;clear hR hb;subst hv3)
 clear e0 CL
 have HS1:=aA.mk (Kd.cH HS.out HB0.out)
 have HX1:=aA.mk (Kd.cH HXC.out HB0.out)
 obtain ⟨X,hX⟩:∃ X,X=w1.heap.size:=⟨_,rfl⟩
 have SZ1:=aA.mk (show Kd.R (Kd.int .i64) 3 w1 w.heap.size (fun k=>k<X) (.slice A3 szs.length cap3) szs from Kd.fB (Kd.eW SZ0.out) (fun k hk=>hX▸hk.2.2.1))
 have XX:=aA.mk (show w.heap.size≤X from hX▸HB0.out.size)
 have NW:=aA.mk (bF w1 (.cells #[.pointer none,.slice A3 szs.length cap3,.slice none 0 0] 261))
 have HX2:=aA.mk hX
 rw [← hX] at NW
 clear hX SZ0
 rw [← HX2.out]
 go_loopw [7,23] (fun s i wr=>∃ (k:Nat) (v:Value),k≤szs.length∧i= .int .i64 k∧s= .int .i64 (dX szs k)∧aA (wr.heap[X]?=some (.cells #[.pointer none,.slice A3 szs.length cap3,v] 261 (0,0)))∧aA (Kd.R (Kd.int .i64) 3 wr w.heap.size (fun k=>k<X) (.slice A3 szs.length cap3) szs)∧aA (Kd.R (Kd.int .i64) 3 wr w.heap.size (fun k=>X≤k) v (dM szs k))∧aA (Below w1.heap.size w1 wr)) (fun _ i _=>szs.length - (intOf i).toNat)
 case atStart=>exact ⟨0,.slice none 0 0,Nat.zero_le _,rfl,rfl,NW,⟨Kd.cO SZ1.out _⟩,⟨Kd.lA _ _ _ _ _⟩,⟨aD (Below.refl _ _) _⟩⟩
 case round=>
  clear SZ1 NW
  obtain ⟨k,v,hk,rfl,rfl,B0,SZ,HG,HBW⟩:=hrel
  have HB:=aA.mk (bA HB0.out HBW.out)
  have XW:=aA.mk (show X≤wr.heap.size from by rw [HX2.out];exact HBW.out.size)
  by_cases hlt:k<szs.length
  ·have HK:=aA.mk (⟨hlt,h8⟩:k<szs.length∧szs.length≤8)
   have hT:decide ((k:Int)<(szs.length:Int))=true:=decide_eq_true (by omega)
   obtain ⟨ad,rfl,x0⟩:=Kd.oZ HS1.out (k:Int) (by omega) (by omega)
   replace x0:=(HBW.out.cell (World.block_lt_of_cell? w1 _ x0)).trans x0
   simp only [Int.toNat_natCast] at x0
   have hrd:rd szs (k:Int)=szs.getD k 0:=by simp [rd]
   rw [hrd] at x0
   obtain ⟨p0,p1⟩:=uL szs HR.out k (by omega)
   have PS:=aA.mk (o8 szs k hlt)
   obtain ⟨r0,r1⟩:=HR.out (szs.getD k 0) (by rw [List.getD_eq_getElem?_getD,List.getElem?_eq_getElem hlt];exact List.getElem_mem _)
   generalize szs.getD k 0=sk at x0 PS r0 r1
   have t0:decide (sk<0)=false:=decide_eq_false (by omega)
   have t1:decide (4096<sk)=false:=decide_eq_false (by omega)
   have p2:dX szs k≤32768:=by omega
   clear hrd p1
   have c2:=(aC B0.out 2).trans rfl
   go_wp2_with ((with_reducible refine dT (b:= .append) (xs:=#[.tmp 37,.tmp 39]) rfl ?_);at_builtin;refine Kd.kR (Kd.int .i64) (w0:=w) (w.heap.size) rfl (.tmp 37) (.tmp 39) 32 3 (.int .i64 0) 8 rfl Tryz.underlying32 L7 rfl (by decide) (by omega) v (dM szs k) (dX szs k) [.int .i64 (dX szs k)] (fun k=>X≤k) (fun _=>False) rfl (by first|(go_simp;done)|(go_simp;rfl)) ?aP (fun _ hk=>hk.elim) (fun q hq=>Nat.le_trans XW.out hq) ?aO ?aB ?aS ?aL ?_;(case aP=>exact rfl);(case aO=>exact (by (with_reducible repeat (first|apply Kd.cO|apply Kd.eX));exact HG.out));(case aB=>exact (by repeat (first|exact HB.out|apply aD|apply aH)));(case aS=>exact (by repeat (first|exact (HB.out).size|apply Nat.le_trans (HB.out).size;simp)));(case aL=>rw [oD];have:=HK.out;omega);intro v1 w8 ho hb hg hat;have b0:=aA.mk (j9 HG.out hg B0.out (by decide));have sz:=aA.mk (Kd.eD SZ.out (fun q hq hlt=>hg.block q hlt (fun e=>by have h1:=HG.out.1 q e.symm;have h2:q<X:=hq;omega)));have hw:=aA.mk (vE HBW.out _ HBW.out.size hg (fun q hq=>by have h2:X≤q:=HG.out.1 q hq;have:=HX2.out;omega));obtain ⟨A1,cap1,hv1,_,_⟩:=Kd.bY ho;generalize List.length _=n1 at hv1;subst hv1;have hr:=aA.mk ho;have hbb:=aA.mk hb;clear ho hb hg hat B0 SZ HG HB HBW;have c2:=(aC b0.out 2).trans rfl;have f2:=aG b0.out 2)
   go_wp2
   go_roundw
   case rel=>exact ⟨k+1,_,by omega,by go_num,by rw [PS.out],⟨(bE b0.out 2 _).trans rfl⟩,⟨Kd.tE sz.out b0.out (by decide) 2 _⟩,⟨by rw [NT];exact Kd.tE hr.out b0.out (by decide) 2 _⟩,⟨bM (j:=2) hw.out (by have:=HX2.out;omega)⟩⟩
   case measure=>simp [intOf];omega
  ·have e:k=szs.length:=by omega
   subst e
   have hT:decide ((szs.length:Int)<(szs.length:Int))=false:=decide_eq_false (by omega)
   rw [HSUM.out]
   have q0:(xs.length != xs.length)=false:=by simp
   have q1:((xs.length:Int) != (xs.length:Int))=false:=by simp
   have NC:=aA.mk (fun W=>zD xs.length W hn)
   obtain ⟨wo,rfl⟩:∃ wo:World,wo=wr:=⟨_,rfl⟩
   go_wp2_with (go_at_call 172;refine (NC.out _).mono ?_;rintro e w3 ⟨rfl,rfl⟩)
   clear hT q0 q1
   have C1:=aA.mk (show ((wo.alloc (.cells (bL xs.length (.int .u32 0)) 314)).alloc (.cells (dD wo.heap.size xs.length) 310)).heap[wo.heap.size+1]?=some (.cells (dD wo.heap.size xs.length) 310 (0,0)) from by
    have:=bF (wo.alloc (.cells (bL xs.length (.int .u32 0)) 314)) (.cells (dD wo.heap.size xs.length) 310)
    simpa using this)
   have C2:=aA.mk (show ((wo.alloc (.cells (bL xs.length (.int .u32 0)) 314)).alloc (.cells (dD wo.heap.size xs.length) 310)).heap[wo.heap.size]?=some (.cells (cU (over xs 0)) 314 (0,0)) from by
    rw [OH];exact aV (bF wo _) _)
   have n0:=aA.mk (aV (aV B0.out (.cells (bL xs.length (.int .u32 0)) 314)) (.cells (dD wo.heap.size xs.length) 310))
   have n1:=aA.mk (Kd.cO (Kd.cO SZ.out (.cells (bL xs.length (.int .u32 0)) 314)) (.cells (dD wo.heap.size xs.length) 310))
   have n2:=aA.mk (Kd.cO (Kd.cO HG.out (.cells (bL xs.length (.int .u32 0)) 314)) (.cells (dD wo.heap.size xs.length) 310))
   have n3:=aA.mk (aD (aD HBW.out (.cells (bL xs.length (.int .u32 0)) 314)) (.cells (dD wo.heap.size xs.length) 310))
   have GW:=aA.mk HB.out.size
   have GX:=aA.mk HBW.out.size
   clear B0 SZ HG HBW HB
   generalize (wo.alloc (.cells (bL xs.length (.int .u32 0)) 314)).alloc (.cells (dD wo.heap.size xs.length) 310)=wi at C1 C2 n0 n1 n2 n3 ⊢
   clear XW
   generalize wo.heap.size=gc at C1 C2 GW GX ⊢
   go_loopw [62] (fun i wr=>∃ (j:Nat),j≤xs.length∧i= .int .i64 j∧aA (wr.heap[gc+1]?=some (.cells (dD gc xs.length) 310 (0,0)))∧aA (wr.heap[gc]?=some (.cells (cU (over xs j)) 314 (0,0)))∧aA (wr.heap[X]?=some (.cells #[.pointer none,.slice A3 szs.length cap3,v] 261 (0,0)))∧aA (Kd.R (Kd.int .i64) 3 wr w.heap.size (fun k=>k<X) (.slice A3 szs.length cap3) szs)∧aA (Kd.R (Kd.int .i64) 3 wr w.heap.size (fun k=>X≤k) v (dM szs szs.length))∧aA (Below w1.heap.size w1 wr)) (fun i _=>xs.length - (intOf i).toNat)
   case atStart=>exact ⟨0,Nat.zero_le _,rfl,C1,C2,n0,n1,n2,n3⟩
   case round=>
    clear C1 C2 n0 n1 n2 n3
    obtain ⟨j,hj,rfl,C1,C2,B0,SZ,HG,HBW⟩:=hrel
    by_cases hjl:j<xs.length
    ·have hT:decide ((j:Int)<(xs.length:Int))=true:=decide_eq_true (by omega)
     have HJ:=aA.mk hjl
     obtain ⟨ad,rfl,x0⟩:=Kd.oZ HX1.out (j:Int) (by omega) (by omega)
     replace x0:=(HBW.out.cell (World.block_lt_of_cell? w1 _ x0)).trans x0
     simp only [Int.toNat_natCast] at x0
     have hrd:rd xs (j:Int)=xs.getD j 0:=by simp [rd]
     rw [hrd] at x0
     have CS:=aA.mk (Q2 (gc+1) gc xs.length j (over xs j) (xs.getD j 0) wr C1.out C2.out (lH xs j hj) hjl hn)
     have OS:=aA.mk (BD xs j hjl)
     generalize xs.getD j 0=xv at x0 CS OS
     clear hrd
     go_wp2_with (go_at_call 173;refine CS.out.mono ?_;rintro e w4 ⟨rfl,hm,hrow⟩;have hS:∀ q,q=gc→∃ c t,wr.heap[q]?=some (.cells c t (0,0))∧t=314:=(fun q hq=>⟨_,314,hq▸C2.out,rfl⟩);have m0:=aA.mk (hm.qT C1.out (fun q hq=>⟨_,314,hq▸C2.out,by decide⟩));have m1:=aA.mk (hrow.trans (by rw [OS.out]));have m2:=aA.mk (hm.qT B0.out (fun q hq=>⟨_,314,hq▸C2.out,by decide⟩));have m3:=aA.mk (iT SZ.out hm (fun q hq=>⟨_,314,hq▸C2.out,by decide⟩));have m4:=aA.mk (iT HG.out hm (fun q hq=>⟨_,314,hq▸C2.out,by decide⟩));have m5:=aA.mk (show Below w1.heap.size w1 w4 from ⟨hm.os.trans HBW.out.os,hm.tape.trans HBW.out.tape,hm.output.trans HBW.out.output,Nat.le_trans HBW.out.size hm.size,fun i hi=>(hm.block i (Nat.lt_of_lt_of_le hi HBW.out.size) (by have:=GX.out;omega)).trans (HBW.out.block i hi)⟩);clear hm hrow hS C1 C2 B0 SZ HG HBW CS OS)
     go_roundw
     case rel=>exact ⟨j+1,by omega,by go_num,m0,m1,m2,m3,m4,m5⟩
     case measure=>simp [intOf];omega
    ·have ej:j=xs.length:=by omega
     subst ej
     have hT:decide ((xs.length:Int)<(xs.length:Int))=false:=decide_eq_false (by omega)
     have c0:=(aC B0.out 0).trans rfl
     have f0:=aG B0.out 0
     go_wp2
     go_ret2
     refine ⟨X,gc+1,gc,.slice A3 szs.length cap3,v,rfl,bM (j:=0) (bA HB0.out HBW.out) (by have:=XX.out;omega),⟨(bE B0.out 0 _).trans rfl,Kd.fB (Kd.tE SZ.out B0.out (by decide) 0 _) (fun _ _=>trivial),Kd.fB (Kd.tE HG.out B0.out (by decide) 0 _) (fun _ _=>trivial),bB (p:=⟨X,0,none⟩) C1.out (aK C1.out B0.out (by decide)) _,?_⟩,XX.out,by have:=GW.out;omega,GW.out⟩
     have h:=C2.out
     rw [GV] at h
     exact bB (p:=⟨X,0,none⟩) h (aK h B0.out (by decide)) _
end Go.Proofs.YtjopodnlffaogaaGreatDoor.Tp
end
section
namespace Go.Proofs.YtjopodnlffaogaaGreatDoor.Tp
open Go.RowKit Go.Proofs.YtjopodnlffaogaaGreatDoorW.PrintWords Go.Proofs.YtjopodnlffaogaaGreatDoorW.PrintLast Go.Proofs.YtjopodnlffaogaaGreatDoorW.PrintMore
attribute [local go_sem] aU aQ aY aX aI aJ aT aN
open Go.Proofs.YtjopodnlffaogaaGreatDoor.PTopConfig
def qlock_Try.f (a0:Int):Option (Bool):=if a0=7 then (some true) else (some (a0==8))
theorem qlock_Try.calls (a0:Int) (r:Bool) (w:World) (h:qlock_Try.f a0=some r):
  Calls Tryz.prog 16 #[.int .i64 a0] w fun e w'=>e= .returned (.bool r)∧bS w w':=by
 have H:(if a0=7 then (some true) else (some (a0==8)))=some r:=h
 clear h
 by_cases c2:a0=7
 ·rw [if_pos c2] at H
  have c2b0:(a0==7)=true:=beq_iff_eq.mpr c2
  have c2b1:(a0 != 7)=false:=bne_eq_false_iff_eq.mpr c2
  clear c2
  obtain rfl:=Option.some.inj H
  go_enter Tryz.func16,Tryz.ntmps16
  go_wp2
  go_ret
  exact ⟨by first|rfl|(simp;done)|(simp [*];done),by repeat (first|exact bS.refl _|apply bS.step)⟩
 ·rw [if_neg c2] at H
  have c2b0:(a0==7)=false:=beq_eq_false_iff_ne.mpr c2
  have c2b1:(a0 != 7)=true:=bne_iff_ne.mpr c2
  obtain rfl:=Option.some.inj H
  go_enter Tryz.func16,Tryz.ntmps16
  go_wp2
  go_ret
  exact ⟨by first|rfl|(simp;done)|(simp [*];done),by repeat (first|exact bS.refl _|apply bS.step)⟩
def handle_New.f (a0:Int) (a1:Int):Option (Int × Int):=if a0<0 then (some (0,1)) else (if a0≥4096 then (some (0,1)) else (if a1<0 then (some (0,1)) else (if a1≥262144 then (some (0,1)) else (some ((Go.bits .or .i64 (wrap64 (a1*4096)) a0) % 4294967296,0)))))
theorem handle_New.calls (a0:Int) (a1:Int) (r1:Int) (r2:Int) (w:World) (h:handle_New.f a0 a1=some (r1,r2)):
  Calls Tryz.prog 169 #[.int .i64 a0,.int .i64 a1] w fun e w'=>e= .returned (.tuple #[.int .u32 r1,.int .i64 r2])∧bS w w':=by
 have H:(if a0<0 then (some (0,1)) else (if a0≥4096 then (some (0,1)) else (if a1<0 then (some (0,1)) else (if a1≥262144 then (some (0,1)) else (some ((Go.bits .or .i64 (wrap64 (a1*4096)) a0) % 4294967296,0))))))=some (r1,r2):=h
 clear h
 by_cases c3:a0<0
 ·rw [if_pos c3] at H
  have c3b0:decide (a0<0)=true:=decide_eq_true c3
  clear c3
  simp only [Option.some.injEq,Prod.mk.injEq] at H
  obtain ⟨rfl,rfl⟩:=H
  go_enter Tryz.func169,Tryz.ntmps169
  go_wp2
  go_ret2
  exact ⟨by first|rfl|(simp;done)|(simp [*];done),by repeat (first|exact bS.refl _|apply bS.step)⟩
 ·rw [if_neg c3] at H
  have c3b0:decide (a0<0)=false:=decide_eq_false c3
  clear c3
  by_cases c4:a0≥4096
  ·rw [if_pos c4] at H
   have c4b0:decide (4096≤a0)=true:=decide_eq_true c4
   clear c4
   simp only [Option.some.injEq,Prod.mk.injEq] at H
   obtain ⟨rfl,rfl⟩:=H
   go_enter Tryz.func169,Tryz.ntmps169
   go_wp2
   go_ret2
   exact ⟨by first|rfl|(simp;done)|(simp [*];done),by repeat (first|exact bS.refl _|apply bS.step)⟩
  ·rw [if_neg c4] at H
   have c4b0:decide (4096≤a0)=false:=decide_eq_false c4
   clear c4
   by_cases c5:a1<0
   ·rw [if_pos c5] at H
    have c5b0:decide (a1<0)=true:=decide_eq_true c5
    clear c5
    simp only [Option.some.injEq,Prod.mk.injEq] at H
    obtain ⟨rfl,rfl⟩:=H
    go_enter Tryz.func169,Tryz.ntmps169
    go_wp2
    go_ret2
    exact ⟨by first|rfl|(simp;done)|(simp [*];done),by repeat (first|exact bS.refl _|apply bS.step)⟩
   ·rw [if_neg c5] at H
    have c5b0:decide (a1<0)=false:=decide_eq_false c5
    clear c5
    by_cases c6:a1≥262144
    ·rw [if_pos c6] at H
     have c6b0:decide (262144≤a1)=true:=decide_eq_true c6
     clear c6
     simp only [Option.some.injEq,Prod.mk.injEq] at H
     obtain ⟨rfl,rfl⟩:=H
     go_enter Tryz.func169,Tryz.ntmps169
     go_wp2
     go_ret2
     exact ⟨by first|rfl|(simp;done)|(simp [*];done),by repeat (first|exact bS.refl _|apply bS.step)⟩
    ·rw [if_neg c6] at H
     have c6b0:decide (262144≤a1)=false:=decide_eq_false c6
     clear c6
     simp only [Option.some.injEq,Prod.mk.injEq] at H
     obtain ⟨rfl,rfl⟩:=H
     go_enter Tryz.func169,Tryz.ntmps169
     go_wp2
     go_ret2
     exact ⟨by first|rfl|(simp;done)|(simp [*];done),by repeat (first|exact bS.refl _|apply bS.step)⟩
def SO (w0 W:World) (g:Nat) (f0:List Int) (f1:Int) (f2:Int):Prop:=∃ A0 c0,W.heap[g]?=some (.cells #[.slice A0 f0.length c0,.int .i64 f1,.int .i64 f2] 284 (0,0))∧w0.heap.size≤g∧Kd.C (Kd.int .u32) w0 A0 f0.length f0
theorem SO.IZ {w0 W:World} {g:Nat} {f0:List Int} {f1:Int} {f2:Int} {α:Type} {d:Kd α} {e:Nat} {base:Nat} {ok:Nat→Prop} {v:Value} {xs:List α} (h:SO w0 W g f0 f1 f2) (ho:d.R e W base ok v xs) (ht:e≠284):some g≠v.ownBlock:=by
 obtain ⟨A0,c0,hb,hg,hr0⟩:=h
 exact Kd.YB ho hb ht
end Go.Proofs.YtjopodnlffaogaaGreatDoor.Tp
end
section
namespace Go.Proofs.YtjopodnlffaogaaGreatDoor.Tp
open Go.RowKit Go.Proofs.YtjopodnlffaogaaGreatDoorW.PrintWords Go.Proofs.YtjopodnlffaogaaGreatDoorW.PrintLast Go.Proofs.YtjopodnlffaogaaGreatDoorW.PrintMore
attribute [local go_sem] aU aQ aY aX aI aJ aT aN
theorem BV (x:Nat) (h:x<4096):handle_New.f (x:Int) 0=some ((x:Int),0):=by
 unfold handle_New.f
 rw [if_neg (by omega),if_neg (by omega),if_neg (by omega),if_neg (by omega)]
 have h0:wrap64 (0*4096)=0:=by unfold wrap64;omega
 have h1:Go.bits .or .i64 0 (x:Int)=(x:Int):=by
  show IntKind.i64.wrap (((BitVec.ofInt 64 0 |||BitVec.ofInt 64 (x:Int)).toNat:Nat):Int)=_
  rw [BitVec.toNat_or,BitVec.toNat_ofInt,BitVec.toNat_ofInt]
  have e1:(((0:Int)) % (2 ^ 64:Nat)).toNat=0:=by decide
  have e2:(((x:Nat):Int) % (2 ^ 64:Nat)).toNat=x:=by omega
  rw [e1,e2,Nat.zero_or,IntWalk.i64_in _ (by omega)]
 rw [h0,h1]
 have:(x:Int) % 4294967296=(x:Int):=by omega
 rw [this]
structure Rg where
 b:Nat
 g:Nat
 first:Nat
 n:Nat
 xs:List Int
def kptr:Kd Nat:=Kd.scalar (fun b:Nat=>Value.pointer (some ⟨b,0,none⟩)) (fun _=>rfl)
theorem YU:(Tryz.prog.info? 227).map (fun i=>(i.zero,i.size,i.bytes))=some (some (.pointer none),1,8):=by kernel_rfl
structure iM (W:World) (m:Nat) (r:Rg):Prop where
 bI:W.heap[r.b]?=some (.cells (fT r.g m r.first r.n) 284 (0,0))
 row:W.heap[r.g]?=some (.cells (cU r.xs) 22 (0,0))
 len:r.xs.length=m
structure fZ (W:World) (m:Nat) (rs:List Rg):Prop where
 nb:(rs.map Rg.b).Nodup
 ng:(rs.map Rg.g).Nodup
 at_:∀ r∈rs,iM W m r
theorem iM.step {W W':World} {m:Nat} {r:Rg} (h:iM W m r) (hk:∀ k o,W.heap[k]?=some o→(k=r.b∨k=r.g)→W'.heap[k]?=some o):iM W' m r:=⟨hk _ _ h.bI (.inl rfl),hk _ _ h.row (.inr rfl),h.len⟩
theorem fZ.step {W W':World} {m:Nat} {rs:List Rg} (h:fZ W m rs) (hk:∀ (k:Nat) (c:Array Value) (t:TypeId),W.heap[k]?=some (Obj.cells c t (0,0))→(t=284∨t=22)→W'.heap[k]?=some (Obj.cells c t (0,0))):fZ W' m rs:=
 ⟨h.nb,h.ng,fun r hr=>⟨hk _ _ _ (h.at_ r hr).bI (.inl rfl),hk _ _ _ (h.at_ r hr).row (.inr rfl),(h.at_ r hr).len⟩⟩
theorem fZ.below {W W':World} {m:Nat} {rs:List Rg} (h:fZ W m rs) (hb:Below W.heap.size W W'):fZ W' m rs:=h.step fun _ _ _ hc _=>(hb.block _ (aZ hc)).trans hc
theorem fZ.snoc {W:World} {m X:Nat} {rs:List Rg} {r:Rg} (h:fZ W m rs) (hr:iM W m r) (hX:∀ q∈rs,q.b<X∧q.g<X) (h0:X≤r.b) (h1:X≤r.g):fZ W m (rs++ [r]):=by
 refine ⟨?_,?_,fun q hq=>?_⟩
 ·rw [List.map_append,List.nodup_append]
  refine ⟨h.nb,by simp,fun a ha c hc=>?_⟩
  obtain ⟨q,hq,rfl⟩:=List.mem_map.1 ha
  have:=(hX q hq).1
  simp at hc;omega
 ·rw [List.map_append,List.nodup_append]
  refine ⟨h.ng,by simp,fun a ha c hc=>?_⟩
  obtain ⟨q,hq,rfl⟩:=List.mem_map.1 ha
  have:=(hX q hq).2
  simp at hc;omega
 ·rcases List.mem_append.1 hq with hq|hq
  ·exact h.at_ q hq
  ·rw [List.mem_singleton.1 hq];exact hr
def fN (q m i:Nat):List Int:=(List.range i).map (fun j=>((q+j+1:Nat):Int))++List.replicate (m - i) 0
theorem lT (q m i:Nat) (h:i≤m):(fN q m i).length=m:=by simp [fN];omega
theorem E5 (q m:Nat):cU (fN q m 0)=bL m (.int .u32 0):=by simp [fN,cU,bL]
theorem EN (q m i:Nat) (h:i<m):(fN q m i).set i ((q+i+1:Nat):Int)=fN q m (i+1):=by
 unfold fN
 obtain ⟨d,hd⟩:∃ d,m - i=d+1:=⟨m - i - 1,by omega⟩
 have hd2:m - (i+1)=d:=by omega
 rw [hd,hd2,List.replicate_succ,List.range_succ,List.map_append,List.append_assoc]
 rw [List.set_append_right _ _ (by simp)]
 simp
def eH (m:Nat) (rs:List Rg):Prop:=∀ k r,rs[k]?=some r→r.first=0∧r.n=m∧r.xs=fN (k*m) m m
def pT (B:Nat) (rs:List Rg):Prop:=∀ r∈rs,B≤r.b∧B≤r.g
theorem pT.snoc {B:Nat} {rs:List Rg} {r:Rg} (h:pT B rs) (h1:B≤r.b) (h2:B≤r.g):pT B (rs++ [r]):=fun q hq=>by
 rcases List.mem_append.1 hq with hq|hq
 ·exact h q hq
 ·rw [List.mem_singleton.1 hq];exact ⟨h1,h2⟩
theorem pT.lower {B B':Nat} {rs:List Rg} (h:pT B rs) (hB:B'≤B):pT B' rs:=fun r hr=>⟨Nat.le_trans hB (h r hr).1,Nat.le_trans hB (h r hr).2⟩
theorem eH.snoc {m:Nat} {rs:List Rg} {r:Rg} (h:eH m rs) (h0:r.first=0) (h1:r.n=m) (hx:r.xs=fN (rs.length*m) m m):eH m (rs++ [r]):=fun k q hq=>by
 by_cases hk:k<rs.length
 ·rw [List.getElem?_append_left hk] at hq
  exact h k q hq
 ·rw [List.getElem?_append_right (by omega)] at hq
  obtain ⟨h2,e⟩:=List.getElem?_eq_some_iff.1 hq
  have hk2:k=rs.length:=by simp at h2;omega
  subst hk2
  simp at e
  subst e
  exact ⟨h0,h1,hx⟩
structure jY (W:World) (B bp bm:Nat) (m:Nat) (v:Value) (rs:List Rg):Prop where
 bI:W.heap[bp]?=some (.cells #[.int .i64 (m:Int),v,.map (some bm)] 231 (0,0))
 row:Kd.R kptr 227 W B (fun _=>True) v (rs.map Rg.b)
 rings:fZ W m rs
theorem yT (n m:Nat) (w:World) (h0:1≤n) (h1:n≤64) (m1:m≤8):Calls Tryz.prog 113 #[.int .i64 (n:Int),.int .i64 (m:Int)] w fun e w'=>
  ∃ bp bm v rs,e= .returned (.tuple #[.pointer (some ⟨bp,0,none⟩),.int .i64 0])∧Below w.heap.size w w'∧jY w' w.heap.size bp bm m v rs∧w'.heap[bm]?=some (.map #[] 0)∧w.heap.size≤bp∧w.heap.size≤bm∧rs.length=n∧eH m rs∧pT w.heap.size rs:=by
 have e0:decide ((n:Int)<1)=false:=decide_eq_false (by omega)
 have e1:decide (64<(n:Int))=false:=decide_eq_false (by omega)
 have e2:decide ((m:Int)<0)=false:=decide_eq_false (by omega)
 have e3:decide (8<(m:Int))=false:=decide_eq_false (by omega)
 have hmm:= @run_makeMap Tryz.prog
 go_enter Tryz.func113,Tryz.ntmps113
 go_wp2
 clear e0 e1 e2 e3 hmm
 go_loopw [31] (fun i wr=>∃ (k:Nat) (v:Value) (rs:List Rg),k≤n∧i= .int .i64 k∧aA (rs.length=k)∧aA (wr.heap[w.heap.size+1]?=some (.cells #[.int .i64 (m:Int),v,.map (some w.heap.size)] 231 (0,0)))∧aA (Kd.R kptr 227 wr w.heap.size (fun _=>True) v (rs.map Rg.b))∧aA (wr.heap[w.heap.size]?=some (.map #[] 0))∧aA (fZ wr m rs)∧aA (eH m rs∧pT w.heap.size rs)∧aA (Below w.heap.size w wr)) (fun i _=>n - (intOf i).toNat)
 case atStart=>exact ⟨0,.slice none 0 0,[],Nat.zero_le _,rfl,⟨rfl⟩,⟨by have:=bF (w.alloc (.map #[] 0)) (.cells #[.int .i64 (m:Int),.slice none 0 0,.map (some w.heap.size)] 231);simpa using this⟩,⟨Kd.lA _ _ _ _ _⟩,⟨aV (bF w _) _⟩,⟨⟨List.nodup_nil,List.nodup_nil,fun r hr=>by cases hr⟩⟩,⟨⟨fun k r hr=>by simp at hr,fun r hr=>by cases hr⟩⟩,⟨aD (aD (Below.refl _ _) _) _⟩⟩
 case round=>
  obtain ⟨k,v,rs,hk,rfl,HL,B0,HR,BM,RG,HF,HB⟩:=hrel
  obtain ⟨wo,rfl⟩:∃ wo:World,wo=wr:=⟨_,rfl⟩
  by_cases hlt:k<n
  ·have HK:=aA.mk (⟨hlt,h1⟩:k<n∧n≤64)
   have hT:decide ((k:Int)<(n:Int))=true:=decide_eq_true (by omega)
   have HM1:=aA.mk m1
   obtain ⟨X,hX⟩:∃ X,X=wo.heap.size:=⟨_,rfl⟩
   have XL:=aA.mk (fun q (hq:q∈rs)=>(⟨hX▸aZ (RG.out.at_ q hq).bI,hX▸aZ (RG.out.at_ q hq).row⟩:q.b<X∧q.g<X))
   have XW:=aA.mk (show w.heap.size+1<X from hX▸aZ B0.out)
   have HX:=aA.mk hX
   clear hX
   go_wp2_with (go_at_call 168;refine (yY m _ (by have:=HM1.out;omega)).mono ?_;rintro e w3 ⟨rfl,rfl⟩)
   have RR:=aA.mk (show iM ((wo.alloc (.cells (bL m (.int .u32 0)) 22)).alloc (.cells (fT wo.heap.size m 0 0) 284)) m ⟨X+1,X,0,0,fN (k*m) m 0⟩ from by
    rw [HX.out]
    exact ⟨by have:=bF (wo.alloc (.cells (bL m (.int .u32 0)) 22)) (.cells (fT wo.heap.size m 0 0) 284);simpa using this,by rw [E5];exact aV (bF wo _) _,lT _ _ _ (Nat.zero_le _)⟩)
   have MD:=aA.mk (show Mod (fun q=>X≤q) wo ((wo.alloc (.cells (bL m (.int .u32 0)) 22)).alloc (.cells (fT wo.heap.size m 0 0) 284)) from ((Mod.refl _ wo).alloc _).alloc _)
   rw [show wo.heap.size+1=X+1 from by rw [HX.out]]
   generalize (wo.alloc (.cells (bL m (.int .u32 0)) 22)).alloc (.cells (fT wo.heap.size m 0 0) 284)=wi at RR MD ⊢
   have hmul:wrap64 ((k:Int)*(m:Int))=((k*m:Nat):Int):=by
    have h8:k*m≤64*8:=Nat.mul_le_mul (by omega) m1
    have hc:(k:Int)*(m:Int)=((k*m:Nat):Int):=by simp
    rw [hc];unfold wrap64;omega
   have hq:k*m≤504:=by
    have h8:k*m≤63*8:=Nat.mul_le_mul (by omega) m1
    omega
   generalize hkq:k*m=q at hmul hq RR
   have HQQ:=aA.mk hkq
   clear hkq
   clear hT
   go_loopw [37] (fun i wr=>∃ (j:Nat),j≤m∧i= .int .i64 j∧aA (iM wr m ⟨X+1,X,0,j,fN q m j⟩)∧aA (Mod (fun q=>X≤q) wo wr)) (fun i _=>m - (intOf i).toNat)
   case atStart=>exact ⟨0,Nat.zero_le _,rfl,RR,MD⟩
   case round=>
    clear RR MD
    obtain ⟨j,hj,rfl,RR,MD⟩:=hrel
    by_cases hjl:j<m
    ·have hT:decide ((j:Int)<(m:Int))=true:=decide_eq_true (by omega)
     have HJ:=aA.mk (⟨hjl,m1⟩:j<m∧m≤8)
     have q0:(0:Int)≤(q:Int):=by omega
     have q1:(q:Int)≤504:=by omega
     have j0:(j:Int)≤8:=by omega
     have H1:=aA.mk (fun W=>handle_New.calls (((q+j+1:Nat)):Int) 0 _ _ W (BV (q+j+1) (by omega)))
     have hsum:(q:Int)+(j:Int)+1=((q+j+1:Nat):Int):=by omega
     rw [← hsum] at H1
     have P1:=aA.mk (fun (W:World) (h:iM W m ⟨X+1,X,0,j,fN q m j⟩)=>zW (X+1) X m 0 j (fN q m j) (((q+j+1:Nat)):Int) W h.bI h.row h.len hjl (by omega) (by omega))
     rw [← hsum] at P1
     clear hsum hq
     go_wp2_with (first|(go_at_call 169;refine (H1.out _).mono ?_;rintro e w3 ⟨rfl,hd⟩;have RR3:=aA.mk (RR.out.step (fun q o hq _=>(hd.below.block q (aZ hq)).trans hq));have MD3:=aA.mk (MD.out.drawn hd);clear hd RR MD)|(go_at_call 170;refine (P1.out _ RR3.out).mono ?_;rintro e w4 ⟨rfl,hm,hb1,hb2⟩;have RR2:=aA.mk (show iM w4 m ⟨X+1,X,0,j+1,fN q m (j+1)⟩ from ⟨hb1,by rw [hb2];rw [show (q:Int)+(j:Int)+1=((q+j+1:Nat):Int) by omega,Nat.zero_add,Nat.mod_eq_of_lt HJ.out.1,EN q m j HJ.out.1],lT _ _ _ HJ.out.1⟩);have MD2:=aA.mk (MD3.out.trans hm (fun i hi hs=>by rcases hs with rfl|rfl <;> simp));clear hm hb1 hb2 RR3 MD3))
     go_roundw
     case rel=>exact ⟨j+1,by omega,by go_num,RR2,MD2⟩
     case measure=>simp [intOf];omega
    ·have ej:j=m:=by omega
     subst ej
     have hT:decide ((j:Int)<(j:Int))=false:=decide_eq_false (by omega)
     have n0:=aA.mk (MD.out.bI B0.out (by have:=XW.out;omega))
     have n1:=aA.mk (MD.out.bI BM.out (by have:=XW.out;omega))
     have n2:=aA.mk (show fZ wr j rs from ⟨RG.out.nb,RG.out.ng,fun r hr=>⟨MD.out.bI (RG.out.at_ r hr).bI (by have:=(XL.out r hr).1;omega),MD.out.bI (RG.out.at_ r hr).row (by have:=(XL.out r hr).2;omega),(RG.out.at_ r hr).len⟩⟩)
     have n3:=aA.mk (Kd.eD HR.out (fun q _ hlt=>MD.out.block q hlt (by have:=HX.out;omega)))
     have n4:=aA.mk (show Below w.heap.size w wr from ⟨MD.out.os.trans HB.out.os,MD.out.tape.trans HB.out.tape,MD.out.output.trans HB.out.output,Nat.le_trans HB.out.size MD.out.size,fun i hi=>(MD.out.block i (Nat.lt_of_lt_of_le hi HB.out.size) (by have:=XW.out;omega)).trans (HB.out.block i hi)⟩)
     have n5:=aA.mk (n2.out.snoc RR.out XL.out (by simp) (by simp))
     clear B0 BM RG HR HB n2
     have B0:=n0
     have BM:=n1
     have RG:=n5
     have HR:=n3
     have HB:=n4
     clear n0 n1 n3 n4 n5
     have c1:=(aC B0.out 1).trans rfl
     obtain ⟨b,hbX⟩:∃ b,X+1=b:=⟨_,rfl⟩
     rw [hbX] at RG RR ⊢
     clear RR MD
     go_wp2_with ((with_reducible refine dT (b:= .append) (xs:=#[.tmp 58,.tmp 60]) rfl ?_);at_builtin;refine Kd.kR kptr (w0:=w) (w.heap.size) rfl (.tmp 58) (.tmp 60) 228 227 (.pointer none) 8 rfl Tryz.underlying228 YU rfl (by decide) (by omega) v (rs.map Rg.b) b [.pointer (some ⟨b,0,none⟩)] (fun _=>True) (fun _=>False) rfl (by first|(go_simp;done)|(go_simp;rfl)) ?aP (fun _ hk=>hk.elim) (fun _ _=>trivial) ?aO ?aB ?aS ?aL ?_;(case aP=>exact rfl);(case aO=>exact (by (with_reducible repeat (first|apply Kd.cO|apply Kd.eX));exact HR.out));(case aB=>exact (by repeat (first|exact HB.out|apply aD|apply aH)));(case aS=>exact (by repeat (first|exact (HB.out).size|apply Nat.le_trans (HB.out).size;simp)));(case aL=>rw [List.length_map];have:=HL.out;have:=HK.out;omega);intro v1 w8 ho hb hg hat;have b0:=aA.mk (j9 HR.out hg B0.out (by decide));have bm:=aA.mk (gA BM.out hg (R_ne2 HR.out BM.out (fun _ _ _ h=>by cases h)));have rg:=aA.mk (RG.out.step (fun k c t hk ht=>j9 HR.out hg hk (by rcases ht with rfl|rfl <;> decide)));obtain ⟨A1,cap1,hv1,_,_⟩:=Kd.bY ho;generalize List.length _=n1 at hv1;subst hv1;have hr:=aA.mk ho;have hbb:=aA.mk hb;clear ho hb hg hat B0 BM RG HR HB;have c1:=(aC b0.out 1).trans rfl;have f1:=aG b0.out 1)
     go_wp2
     go_roundw
     case rel=>exact ⟨k+1,_,rs++ [⟨b,X,0,j,fN q j j⟩],by omega,by go_num,⟨by rw [List.length_append,List.length_singleton,HL.out]⟩,⟨(bE b0.out 1 _).trans rfl⟩,⟨by rw [List.map_append];exact Kd.tE hr.out b0.out (by decide) 1 _⟩,⟨(Below.heap_setCell w8 ⟨w.heap.size+1,1,none⟩ _ w.heap.size (by simp)).trans bm.out⟩,⟨rg.out.step (fun q c t hq ht=>bB (p:=⟨w.heap.size+1,1,none⟩) hq (aK hq b0.out (by rcases ht with rfl|rfl <;> decide)) _)⟩,⟨⟨HF.out.1.snoc rfl rfl (by rw [HL.out,HQQ.out]),HF.out.2.snoc (by have:=XW.out;show _≤b;omega) (by have:=XW.out;show _≤X;omega)⟩⟩,⟨bM (j:=1) hbb.out (by omega)⟩⟩
     case measure=>simp [intOf];omega
  ·have e:k=n:=by omega
   subst e
   have hT:decide ((k:Int)<(k:Int))=false:=decide_eq_false (by omega)
   go_wp2
   go_ret2
   exact ⟨_,_,v,rs,rfl,HB.out,⟨B0.out,HR.out,RG.out⟩,BM.out,by omega,Nat.le_refl _,HL.out,HF.out.1,HF.out.2⟩
section
variable {α:Type} (f:α→List Value) (k:Nat) (hk:∀ x,(f x).length=k)
include hk
theorem oA (l:List α):(l.flatMap f).length=l.length*k:=by
 induction l with
 |nil=>simp
 |cons a l ih=>rw [List.flatMap_cons,List.length_append,ih,hk,List.length_cons,Nat.succ_mul,Nat.add_comm]
theorem qP:∀ (l:List α) (i j:Nat),j<k→(l.flatMap f)[i*k+j]?=(l[i]?).bind (fun x=>(f x)[j]?)
 | [],i,j,_=>by simp
 |a :: l,0,j,hj=>by
  rw [List.flatMap_cons,Nat.zero_mul,Nat.zero_add,List.getElem?_append_left (by rw [hk];exact hj)]
  simp
 |a :: l,i+1,j,hj=>by
  rw [List.flatMap_cons,List.getElem?_append_right (by rw [hk,Nat.succ_mul];omega),hk]
  have:(i+1)*k+j - k=i*k+j:=by rw [Nat.succ_mul];omega
  rw [this,qP l i j hj]
  simp
theorem qZ:∀ (l:List α) (i j:Nat) (v:Value) (y:α),j<k→(hi:i<l.length)→f y=(f l[i]).set j v→(l.flatMap f).set (i*k+j) v=(l.set i y).flatMap f
 |a :: l,0,j,v,y,hj,hi,h=>by
  rw [List.flatMap_cons,Nat.zero_mul,Nat.zero_add,List.set_append_left _ _ (by rw [hk];exact hj),List.set_cons_zero,List.flatMap_cons,h]
  simp
 |a :: l,i+1,j,v,y,hj,hi,h=>by
  rw [List.flatMap_cons,List.set_append_right _ _ (by rw [hk,Nat.succ_mul];omega),hk,List.set_cons_succ,List.flatMap_cons]
  have:(i+1)*k+j - k=i*k+j:=by rw [Nat.succ_mul];omega
  rw [this,qZ l i j v y hj (by simpa using hi) (by simpa using h)]
end
structure Cr where
 r0:Int
 r1:Int
 r2:Int
 r3:Int
 r4:Int
 r5:Int
 r6:Int
 r7:Int
 pc:Int
def Cr.cells (c:Cr):List Value:= [.int .u32 c.r0,.int .u32 c.r1,.int .u32 c.r2,.int .u32 c.r3,.int .u32 c.r4,.int .u32 c.r5,.int .u32 c.r6,.int .u32 c.r7,.int .i64 c.pc]
def Cr.zero:Cr:=⟨0,0,0,0,0,0,0,0,0⟩
theorem Cr.eS (c:Cr):c.cells.length=9:=rfl
def bD (cs:List Cr):Array Value:=(cs.flatMap Cr.cells).toArray
theorem tL (cs:List Cr) (i j:Nat) (hj:j<9):(bD cs)[i*9+j]?=(cs[i]?).bind (fun x=>x.cells[j]?):=by
 unfold bD
 rw [List.getElem?_toArray,qP Cr.cells 9 Cr.eS cs i j hj]
theorem dR (cs:List Cr) (i j:Nat) (v:Value) (y:Cr) (hj:j<9) (hi:i<cs.length) (h:y.cells=(cs[i].cells).set j v):(bD cs).setIfInBounds (i*9+j) v=bD (cs.set i y):=by
 unfold bD
 rw [List.setIfInBounds_toArray,qZ Cr.cells 9 Cr.eS cs i j v y hj hi h]
theorem A4 {α:Type} (f:α→List Value) (k:Nat) (hk:∀ x,(f x).length=k) (h0:0<k) (z:α) (zc:Array Value) (hz:zc.toList=f z) (n:Nat):madeCells zc (n*k)=((List.replicate n z).flatMap f).toArray:=by
 have hs:zc.size=k:=by rw [← hk z,← hz];simp
 apply Array.ext
 ·unfold madeCells
  simp [oA f k hk]
 ·intro x h1 h2
  have hx:x<n*k:=by simpa [madeCells] using h1
  have hq:x / k<n:=Nat.div_lt_of_lt_mul (by rw [Nat.mul_comm];exact hx)
  have hr:x % k<k:=Nat.mod_lt _ h0
  have e:x / k*k+x % k=x:=by rw [Nat.mul_comm];exact Nat.div_add_mod x k
  have g:=qP f k hk (List.replicate n z) (x / k) (x % k) hr
  rw [e] at g
  have g2:((List.replicate n z).flatMap f)[x]?=(f z)[x % k]?:=by rw [g];simp [hq]
  have h3:x % k<zc.size:=by omega
  have h4:(madeCells zc (n*k))[x]?=some zc[x % k]:=by
   unfold madeCells
   simp [hx,hs,h3]
   exact getElem!_pos zc (x % k) h3
  have h5:(f z)[x % k]?=some zc[x % k]:=by rw [← hz];simp [h3]
  have h6:((List.replicate n z).flatMap f).toArray[x]?=(madeCells zc (n*k))[x]?:=by
   rw [List.getElem?_toArray,g2,h5,h4]
  rw [Array.getElem?_eq_getElem h1,Array.getElem?_eq_getElem h2] at h6
  exact (Option.some.inj h6).symm
theorem JT (n:Nat):madeCells (Value.agg #[.int .u32 0,.int .u32 0,.int .u32 0,.int .u32 0,.int .u32 0,.int .u32 0,.int .u32 0,.int .u32 0,.int .i64 0]).cells (n*9)=bD (List.replicate n Cr.zero):=
 A4 Cr.cells 9 Cr.eS (by decide) Cr.zero _ rfl n
def EJ:Kd Nat:=Kd.scalar (fun c:Nat=>Value.chan (some c)) (fun _=>rfl)
abbrev qR:Obj:= .chan 1 #[] false 0 0 false
theorem WY:(Tryz.prog.info? 196).map (fun i=>(i.zero,i.size,i.bytes))=some (some (.chan none),1,8):=by kernel_rfl
structure iO (W:World) (B:Nat) (cs:List Nat):Prop where
 nodup:cs.Nodup
 at_:∀ c∈cs,B≤c∧W.heap[c]?=some qR
theorem iO.nil (W:World) (B:Nat):iO W B []:=⟨List.nodup_nil,fun c h=>by cases h⟩
theorem iO.step {W W':World} {B:Nat} {cs:List Nat} (h:iO W B cs) (hk:∀ c∈cs,W.heap[c]?=some qR→W'.heap[c]?=some qR):iO W' B cs:=⟨h.nodup,fun c hc=>⟨(h.at_ c hc).1,hk c hc (h.at_ c hc).2⟩⟩
theorem iO.below {W W':World} {B:Nat} {cs:List Nat} (h:iO W B cs) (hb:Below W.heap.size W W'):iO W' B cs:=h.step fun _ _ hc=>(hb.block _ (aZ hc)).trans hc
theorem iO.snoc {W:World} {B:Nat} {cs:List Nat} (h:iO W B cs) (hB:B≤W.heap.size):iO (W.alloc qR) B (cs++ [W.heap.size]):=by
 refine ⟨?_,fun c hc=>?_⟩
 ·rw [List.nodup_append]
  refine ⟨h.nodup,by simp,fun a ha b hb=>?_⟩
  have:=aZ (h.at_ a ha).2
  rw [List.mem_singleton.1 hb];omega
 ·rcases List.mem_append.1 hc with hc|hc
  ·exact ⟨(h.at_ c hc).1,aV (h.at_ c hc).2 _⟩
  ·rw [List.mem_singleton.1 hc];exact ⟨hB,bF W _⟩
theorem iO.grown {W W':World} {B:Nat} {cs:List Nat} {row:Option Nat} (h:iO W B cs) (hg:W.grownBy W' row) (hr:∀ k,row=some k→∃ c t fr,W.heap[k]?=some (.cells c t fr)):iO W' B cs:=
 h.step fun c _ hc=>gA hc hg (fun e=>by obtain ⟨x,y,z,hk⟩:=hr c e.symm;rw [hc] at hk;cases hk)
structure O3 (W:World) (B b n:Nat) (v:Value) (cs:List Nat):Prop where
 bI:W.heap[b]?=some (.cells #[v] 195 (0,0))
 row:Kd.R EJ 196 W B (fun k=>k≠b) v cs
 len:cs.length=n
 chans:iO W B cs
theorem uB (n:Nat) (w:World) (h0:1≤n) (h1:n≤64):Calls Tryz.prog 52 #[.int .i64 (n:Int)] w fun e w'=>
  e= .returned (.tuple #[.pointer (some ⟨w.heap.size,0,none⟩),.int .i64 0])∧Below w.heap.size w w'∧∃ v cs,O3 w' w.heap.size w.heap.size n v cs:=by
 have e0:decide ((n:Int)<1)=false:=decide_eq_false (by omega)
 have e1:decide (64<(n:Int))=false:=decide_eq_false (by omega)
 go_enter Tryz.func52,Tryz.ntmps52
 go_wp2
 clear e0 e1
 go_loopw [14] (fun i wr=>∃ (k:Nat) (v:Value) (cs:List Nat),k≤n∧i= .int .i64 k∧aA (cs.length=k)∧aA (wr.heap[w.heap.size]?=some (.cells #[v] 195 (0,0)))∧aA (Kd.R EJ 196 wr w.heap.size (fun k=>k≠w.heap.size) v cs)∧aA (iO wr w.heap.size cs)∧aA (Below w.heap.size w wr)) (fun i _=>n - (intOf i).toNat)
 case atStart=>exact ⟨0,.slice none 0 0,[],Nat.zero_le _,rfl,⟨rfl⟩,⟨bF _ _⟩,⟨Kd.lA _ _ _ _ _⟩,⟨iO.nil _ _⟩,⟨aD (Below.refl _ _) _⟩⟩
 case round=>
  obtain ⟨k,v,cs,hk,rfl,HL,B0,HR,HC,HB⟩:=hrel
  by_cases hlt:k<n
  ·have HK:=aA.mk (⟨hlt,h1⟩:k<n∧n≤64)
   have hT:decide ((k:Int)<(n:Int))=true:=decide_eq_true (by omega)
   go_wp2
   clear hT

   refine dB (n:=11) (S:=fun w'=>w'.heap[w.heap.size]?=some (.cells #[v] 195 (0,0))) (ds:= [10]) #[false,false,false,false,false,false,false,false,false,false,false] (by kernel_rfl) rfl rfl B0.out (fun hHeld=>?_)
   replace B0:=aA.mk (drew_ B0.out)
   replace HR:=aA.mk (Kd.iI HR.out)
   replace HC:=aA.mk (HC.out.below (bG (Below.refl _ _)))
   replace HB:=aA.mk (bG HB.out)
   generalize wr.drew=w2 at B0 HR HC HB hHeld ⊢
   refine pur_ 0 16 ?_
   refine pur_ 1 17 ?_
   refine pur_ 2 18 ?_
   refine pur_ 3 19 ?_
   refine tak_ 4 20 (v) ?_ hHeld ?_
   ·intro w' hS
    have c0:=(aC hS 0).trans rfl
    clear hHeld hS
    go_simp
   refine on_ 5 21 (fun K hK=>?_)
   refine jX (v:= .chan (some w2.heap.size)) (w1:=w2.alloc qR) (by rfl) rfl (by kernel_rfl) ?_
   have HC':=aA.mk (HC.out.snoc HB.out.size)
   have HW:=aA.mk HB.out.size
   clear HC
   replace B0:=aA.mk (aV B0.out qR)
   replace HR:=aA.mk (Kd.cO HR.out qR)
   replace HB:=aA.mk (aD HB.out qR)
   clear hHeld
   refine hK.out _ _ B0.out (fun hHeld=>?_)
   clear hK K
   refine nor_ ?_
   generalize w2.alloc qR=w3 at B0 HR HB HC' hHeld ⊢
   generalize w2.heap.size=c at HC' HW ⊢
   refine on_ 6 22 (fun K hK=>?_)
   refine jX (v:= .slice (some ⟨w3.heap.size,0,none⟩) 1 1) (w1:=w3.alloc (.cells #[.chan (some c)] 196)) (by rfl) rfl (by kernel_rfl) ?_
   refine hK.out _ _ (aV B0.out _) (fun hHeld=>?_)
   clear hK K
   refine nor_ ?_
   refine on_ 7 23 (fun K hK=>?_)
   refine Kd.pU EJ (w0:=w) w.heap.size (by rfl) (.tmp 20) (.tmp 22) 193 196 (.chan none) 8 rfl Tryz.underlying193 WY rfl (by decide) (by omega) v cs c [.chan (some c)] (fun k=>k≠w.heap.size) (fun _=>False) rfl rfl rfl (fun _ hk=>hk.elim) (fun q hq=>by have:=aZ B0.out;omega) HR.out HB.out HB.out.size (by have:=HL.out;have:=HK.out;omega) ?_
   intro v1 w4 ho hb hg hat
   have b0:=aA.mk (gA B0.out hg (fun e=>(HR.out.1 _ e.symm) rfl))
   have hc:=aA.mk (HC'.out.grown hg (fun q hq=>by obtain ⟨_,_,_,t,_,cells,hh⟩:=(Kd.eW HR.out).1 q hq;exact ⟨_,_,_,hh⟩))
   have hr:=aA.mk ho
   have hbb:=aA.mk hb
   obtain ⟨A1,cap1,hv1,_,_⟩:=Kd.bY ho
   obtain ⟨n1,hn1⟩:∃ n1,(cs++ [c]).length=n1:=⟨_,rfl⟩
   rw [hn1] at hv1
   clear hn1
   subst hv1
   clear B0 HC' HR HB ho hb hg hat hHeld
   refine hK.out _ _ b0.out (fun hHeld=>?_)
   clear hK K
   refine nor_ ?_
   refine pur_ 8 24 ?_
   refine pur_ 9 25 ?_
   refine fX (i:=10) (N:=none) #[true,true,true,true,true,true,true,true,true,true,true] rfl rfl (by kernel_rfl) (by decide) (fun K hK=>?_)
   refine iH (w1:=w4.setCell ⟨w.heap.size,0,none⟩ (.slice A1 n1 cap1)) (by rfl) rfl ?_ ?_
   ·clear hK hHeld
    have c0:=(aC b0.out 0).trans rfl
    have f0:=aG b0.out 0
    go_simp
   replace hr:=aA.mk (Kd.oQ (p:=⟨w.heap.size,0,none⟩) hr.out (fun q hq=>hq) (.slice A1 n1 cap1))
   replace hc:=aA.mk (hc.out.step (fun c hc0 hcc=>(Below.heap_setCell w4 ⟨w.heap.size,0,none⟩ (.slice A1 n1 cap1) c (fun e=>by have h:=b0.out;rw [e] at hcc;rw [hcc] at h;cases h)).trans hcc))
   replace b0:=aA.mk ((bE b0.out 0 (.slice A1 n1 cap1)).trans rfl)
   replace hbb:=aA.mk (bM (j:=0) (v:=(.slice A1 n1 cap1)) hbb.out (Nat.le_refl _))
   clear hHeld
   generalize w4.setCell ⟨w.heap.size,0,none⟩ (.slice A1 n1 cap1)=w5 at b0 hr hc hbb ⊢
   refine hK.out _ _ ?_
   clear hK K
   refine eO (by kernel_rfl) ?_
   go_wp2
   go_roundw
   case rel=>exact ⟨k+1,_,cs++ [c],by omega,by go_num,⟨by rw [List.length_append,List.length_singleton,HL.out]⟩,b0,hr,hc,hbb⟩
   case measure=>simp [intOf];omega
  ·have e:k=n:=by omega
   subst e
   have hT:decide ((k:Int)<(k:Int))=false:=decide_eq_false (by omega)
   go_wp2
   go_ret2
   exact ⟨rfl,HB.out,v,cs,B0.out,HR.out,HL.out,HC.out⟩
structure Sl where
 looks:Int
 addr:Int
def ksl:Kd Sl:=Kd.iso (Kd.pair (Kd.int .i64) (Kd.int .i64)) (fun x:Sl=>(x.looks,x.addr))
theorem VU (w:World) (base:Nat) (ok:Nat→Prop) (x:Sl):ksl.M w base ok x [.int .i64 x.looks,.int .i64 x.addr]:=⟨[.int .i64 x.looks],[.int .i64 x.addr],rfl,rfl,rfl⟩
theorem Y3:(Tryz.prog.info? 125).map (fun i=>(i.zero,i.size,i.bytes))=some (some (.agg #[.int .i64 0,.int .i64 0]),2,16):=by kernel_rfl
structure kD (W:World) (B bw bp:Nat) (spin:Int) (v vp:Value) (sl:List Sl) (cs:List Nat):Prop where
 bI:W.heap[bw]?=some (.cells #[.int .i64 spin,v,.pointer (some ⟨bp,0,none⟩)] 123 (0,0))
 row:Kd.R ksl 125 W B (fun _=>True) v sl
 pblk:W.heap[bp]?=some (.cells #[vp] 195 (0,0))
 prow:Kd.R EJ 196 W B (fun _=>True) vp cs
 chans:iO W B cs
 len:cs.length=sl.length
theorem yS (n:Nat) (spin:Int) (w:World) (h0:1≤n) (h1:n≤64) (s0:1≤spin) (s1:spin≤1000):Calls Tryz.prog 24 #[.int .i64 (n:Int),.int .i64 spin] w fun e w'=>
  ∃ bw bp v vp cs,e= .returned (.tuple #[.pointer (some ⟨bw,0,none⟩),.int .i64 0])∧Below w.heap.size w w'∧kD w' w.heap.size bw bp spin v vp (List.replicate n ⟨0,-1⟩) cs∧w.heap.size≤bw∧w.heap.size≤bp:=by
 have e0:decide (spin<1)=false:=decide_eq_false (by omega)
 have e1:decide (1000<spin)=false:=decide_eq_false (by omega)
 go_enter Tryz.func24,Tryz.ntmps24
 go_wp2_with (go_at_call 52;refine (uB n w h0 h1).mono ?_;rintro e w1 ⟨rfl,hb,vp,cs,hp⟩;have HB:=aA.mk hb;have HP:=aA.mk hp;clear hb hp)

 clear e0 e1
 go_loopw [29] (fun i wr=>∃ (k:Nat) (v:Value),k≤n∧i= .int .i64 k∧aA (wr.heap[w1.heap.size]?=some (.cells #[.int .i64 spin,v,.pointer (some ⟨w.heap.size,0,none⟩)] 123 (0,0)))∧aA (Kd.R ksl 125 wr w.heap.size (fun _=>True) v (List.replicate k ⟨0,-1⟩))∧aA (wr.heap[w.heap.size]?=some (.cells #[vp] 195 (0,0)))∧aA (Kd.R EJ 196 wr w.heap.size (fun _=>True) vp cs)∧aA (iO wr w.heap.size cs)∧aA (Below w.heap.size w wr)) (fun i _=>n - (intOf i).toNat)
 case atStart=>exact ⟨0,.slice none 0 0,Nat.zero_le _,rfl,⟨bF _ _⟩,⟨Kd.lA _ _ _ _ _⟩,⟨aV HP.out.bI _⟩,⟨Kd.fB (Kd.cO HP.out.row _) (fun _ _=>trivial)⟩,⟨HP.out.chans.below (aD (Below.refl _ _) _)⟩,⟨aD HB.out _⟩⟩
 case round=>
  have HW:=aA.mk HB.out.size
  have HLN:=aA.mk HP.out.len
  clear HB HP
  obtain ⟨k,v,hk,rfl,B0,HR,PB,PR,CH,HB⟩:=hrel
  by_cases hlt:k<n
  ·have HK:=aA.mk (⟨hlt,h1⟩:k<n∧n≤64)
   have hT:decide ((k:Int)<(n:Int))=true:=decide_eq_true (by omega)
   have c1:=(aC B0.out 1).trans rfl
   go_wp2_with ((with_reducible refine dT (b:= .append) (xs:=#[.tmp 35,.tmp 37]) rfl ?_);at_builtin;refine Kd.kR ksl (w0:=w) w.heap.size rfl (.tmp 35) (.tmp 37) 121 125 (.agg #[.int .i64 0,.int .i64 0]) 16 rfl Tryz.underlying121 Y3 rfl (by decide) (by omega) v (List.replicate k ⟨0,-1⟩) ⟨0,-1⟩ [.int .i64 0,.int .i64 (-1)] (fun _=>True) (fun _=>False) rfl (by first|(go_simp;done)|(go_simp;rfl)) ?aP (fun _ hk=>hk.elim) (fun _ _=>trivial) ?aO ?aB ?aS ?aL ?_;(case aP=>first|exact rfl|exact VU _ _ _ ⟨0,-1⟩);(case aO=>exact (by (with_reducible repeat (first|apply Kd.cO|apply Kd.eX));exact HR.out));(case aB=>exact (by repeat (first|exact HB.out|apply aD|apply aH)));(case aS=>exact (by repeat (first|exact (HB.out).size|apply Nat.le_trans (HB.out).size;simp)));(case aL=>rw [List.length_replicate];have:=HK.out;omega);intro v1 w8 ho hb hg hat;have b0:=aA.mk (j9 HR.out hg B0.out (by decide));have bp:=aA.mk (j9 HR.out hg PB.out (by decide));have pr:=aA.mk (Y4 PR.out HR.out hg (by decide));have ch:=aA.mk (CH.out.grown hg (fun q hq=>by obtain ⟨_,_,_,t,_,cells,hh⟩:=(Kd.eW HR.out).1 q hq;exact ⟨_,_,_,hh⟩));obtain ⟨A1,cap1,hv1,_,_⟩:=Kd.bY ho;generalize List.length _=n1 at hv1;subst hv1;have hr:=aA.mk ho;have hbb:=aA.mk hb;clear ho hb hg hat B0 PB PR CH HR HB;have c1:=(aC b0.out 1).trans rfl;have f1:=aG b0.out 1)
   go_wp2
   go_roundw
   case rel=>exact ⟨k+1,_,by omega,by go_num,⟨(bE b0.out 1 _).trans rfl⟩,⟨by rw [List.replicate_succ'];exact Kd.tE hr.out b0.out (by decide) 1 _⟩,⟨bB (p:=⟨w1.heap.size,1,none⟩) bp.out (aK bp.out b0.out (by decide)) _⟩,⟨Kd.tE pr.out b0.out (by decide) 1 _⟩,⟨ch.out.step (fun c _ hcc=>(Below.heap_setCell w8 ⟨w1.heap.size,1,none⟩ _ c (fun e=>by have h:=b0.out;rw [e] at hcc;rw [hcc] at h;cases h)).trans hcc)⟩,⟨bM (j:=1) hbb.out HW.out⟩⟩
   case measure=>simp [intOf];omega
  ·have e:k=n:=by omega
   subst e
   have hT:decide ((k:Int)<(k:Int))=false:=decide_eq_false (by omega)
   go_wp2
   go_ret2
   exact ⟨_,_,v,vp,cs,rfl,HB.out,⟨B0.out,HR.out,PB.out,PR.out,CH.out,by rw [HLN.out,List.length_replicate]⟩,HW.out,Nat.le_refl _⟩
def y9 (W:World) (S:Nat→Prop) (T:List Nat):Prop:=∀ q,S q→∃ c t,W.heap[q]?=some (.cells c t (0,0))∧∀ y,y∈T→y≠t
theorem y9.sub {W:World} {S:Nat→Prop} {T T':List Nat} (h:y9 W S T) (hT:∀ y,y∈T'→y∈T):y9 W S T':=fun q hq=>by
 obtain ⟨c,t,h1,h2⟩:=h q hq
 exact ⟨c,t,h1,fun y hy=>h2 y (hT y hy)⟩
theorem y9.bI {W W':World} {S:Nat→Prop} {T:List Nat} {g t:Nat} {c:Array Value} (h:y9 W S T) (hm:Mod S W W') (hb:W.heap[g]?=some (.cells c t (0,0))) (ht:t∈T):W'.heap[g]?=some (.cells c t (0,0)):=
 hm.qT hb (fun q hq=>by obtain ⟨c,u,h1,h2⟩:=h q hq;exact ⟨c,u,h1,h2 t ht⟩)
theorem y9.R {α:Type} {d:Kd α} {e B:Nat} {W W':World} {S:Nat→Prop} {T:List Nat} {v:Value} {xs:List α} (h:y9 W S T) (hm:Mod S W W') (hr:Kd.R d e W B (fun _=>True) v xs) (ht:∀ y,y∈e :: d.E→y∈T):Kd.R d e W' B (fun _=>True) v xs:=
 iT hr hm (fun q hq=>by obtain ⟨c,u,h1,h2⟩:=h q hq;exact ⟨c,u,h1,fun y hy=>h2 y (ht y hy)⟩)
theorem l6.below {W W':World} {B bm bc gc:Nat} {vs vb:Value} {szs xs:List Int} (h:l6 W B bm bc gc vs vb szs xs) (hb:Below W.heap.size W W'):l6 W' B bm bc gc vs vb szs xs:=
 ⟨aE h.bI hb,Kd.eD h.sizes (fun k _ hk=>hb.block k hk),Kd.eD h.begins (fun k _ hk=>hb.block k hk),aE h.cblk hb,aE h.crow hb⟩
theorem jY.below {W W':World} {B bp bm m:Nat} {v:Value} {rs:List Rg} (h:jY W B bp bm m v rs) (hb:Below W.heap.size W W'):jY W' B bp bm m v rs:=
 ⟨aE h.bI hb,Kd.eD h.row (fun k _ hk=>hb.block k hk),h.rings.step (fun k c t hk _=>aE hk hb)⟩
theorem kD.below {W W':World} {B bw bp:Nat} {spin:Int} {v vp:Value} {sl:List Sl} {cs:List Nat} (h:kD W B bw bp spin v vp sl cs) (hb:Below W.heap.size W W'):kD W' B bw bp spin v vp sl cs:=
 ⟨aE h.bI hb,Kd.eD h.row (fun k _ hk=>hb.block k hk),aE h.pblk hb,Kd.eD h.prow (fun k _ hk=>hb.block k hk),h.chans.below hb,h.len⟩
theorem l6.lower {W:World} {B B' bm bc gc:Nat} {vs vb:Value} {szs xs:List Int} (h:l6 W B bm bc gc vs vb szs xs) (hB:B'≤B):l6 W B' bm bc gc vs vb szs xs:=
 ⟨h.bI,Kd.cT h.sizes hB,Kd.cT h.begins hB,h.cblk,h.crow⟩
theorem jY.lower {W:World} {B B' bp bm m:Nat} {v:Value} {rs:List Rg} (h:jY W B bp bm m v rs) (hB:B'≤B):jY W B' bp bm m v rs:=
 ⟨h.bI,Kd.cT h.row hB,h.rings⟩
theorem l6.mod {W W':World} {S:Nat→Prop} {B bm bc gc:Nat} {vs vb:Value} {szs xs:List Int} (h:l6 W B bm bc gc vs vb szs xs) (hm:Mod S W W') (hS:y9 W S [261,3,310,314]):l6 W' B bm bc gc vs vb szs xs:=
 ⟨hS.bI hm h.bI (by decide),hS.R hm h.sizes (by decide),hS.R hm h.begins (by decide),hS.bI hm h.cblk (by decide),hS.bI hm h.crow (by decide)⟩
theorem jY.mod {W W':World} {S:Nat→Prop} {B bp bm m:Nat} {v:Value} {rs:List Rg} (h:jY W B bp bm m v rs) (hm:Mod S W W') (hS:y9 W S [231,227,284,22]):jY W' B bp bm m v rs:=
 ⟨hS.bI hm h.bI (by decide),hS.R hm h.row (by decide),h.rings.step (fun k c t hk ht=>hS.bI hm hk (by rcases ht with rfl|rfl <;> decide))⟩
def cz (v:Int):Cr:=⟨0,0,0,0,0,0,0,v,0⟩
theorem WM:cz 0=Cr.zero:=rfl
theorem XF (r7:List Int) (k:Nat) (h:k<r7.length):(bD ((over r7 k).map cz)).setIfInBounds (k*9+7) (.int .u32 (r7.getD k 0))=bD ((over r7 (k+1)).map cz):=by
 have hl:((over r7 k).map cz).length=r7.length:=by rw [List.length_map,lH r7 k (by omega)]
 rw [dR _ k 7 _ (cz (r7.getD k 0)) (by decide) (by omega)]
 ·rw [← BD r7 k h,List.map_set]
 ·have hz:(over r7 k)[k]'(by rw [lH r7 k (by omega)];exact h)=0:=by
   unfold over
   rw [List.getElem_append_right (by simp;omega)]
   simp
  rw [List.getElem_map,hz]
  rfl
theorem IV (r7:List Int):bD (List.replicate r7.length Cr.zero)=bD ((over r7 0).map cz):=by simp [over,WM]
theorem OJ (r7:List Int):bD ((over r7 r7.length).map cz)=bD (r7.map cz):=by rw [GV]
structure oP (W:World) (B be:Nat) (vl:Value) (l:List dA) (lo un:Int) (bm bc gc:Nat) (vs vb:Value) (szs xs:List Int) (bp bq m:Nat) (vr:Value) (rs:List Rg) (gk:Nat) (cs:List Cr):Prop where
 bI:W.heap[be]?=some (.cells #[vl,.int .i64 lo,.int .i64 un,.pointer (some ⟨bm,0,none⟩),.pointer (some ⟨bp,0,none⟩),.slice (some ⟨gk,0,none⟩) cs.length cs.length] 149 (0,0))
 code:Kd.R e9 214 W B (fun _=>True) vl l
 mem:l6 W B bm bc gc vs vb szs xs
 pool:jY W B bp bq m vr rs
 cores:W.heap[gk]?=some (.cells (bD cs) 192 (0,0))
theorem oP.below {W W':World} {B be:Nat} {vl:Value} {l:List dA} {lo un:Int} {bm bc gc:Nat} {vs vb:Value} {szs xs:List Int} {bp bq m:Nat} {vr:Value} {rs:List Rg} {gk:Nat} {cs:List Cr} (h:oP W B be vl l lo un bm bc gc vs vb szs xs bp bq m vr rs gk cs) (hb:Below W.heap.size W W'):oP W' B be vl l lo un bm bc gc vs vb szs xs bp bq m vr rs gk cs:=
 ⟨aE h.bI hb,Kd.eD h.code (fun k _ hk=>hb.block k hk),h.mem.below hb,h.pool.below hb,aE h.cores hb⟩
end Go.Proofs.YtjopodnlffaogaaGreatDoor.Tp
end
