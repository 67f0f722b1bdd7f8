/- A part of the proof of TopSame: TpAsmMcs. -/
import Derived.Test.YtjopodnlffaogaaGreatDoorSL3
set_option linter.unusedVariables false
set_option linter.unusedSimpArgs false
set_option maxRecDepth 100000
set_option maxHeartbeats 4000000
section
namespace Go.Proofs.YtjopodnlffaogaaGreatDoor.Abs
open Tp
noncomputable def mcsV:Value:= .tuple ⟨[.agg ⟨[.slice (some ⟨873,0,none⟩) 24 1,.int .i64 0,.int .i64 13]⟩,.int .i64 0,.int .i64 0]⟩
noncomputable def mcsH:List (Nat × AO):= [(13,.row [.slice (some ⟨873,0,none⟩) 24 1,.int .i64 0,.int .i64 13] 112 0),
 (14,.row [.int .i64 0] 3 0),
 (15,.row [.int .i64 0] 26 0),
 (16,.obj (.map ⟨[⟨.string ⟨⟨[108,111,99,107]⟩⟩,.int .i64 0,0⟩,⟨.string ⟨⟨[103,111,116]⟩⟩,.int .i64 11,1⟩,⟨.string ⟨⟨[117,110,108,111,99,107]⟩⟩,.int .i64 13,2⟩,⟨.string ⟨⟨[108,105,110,107]⟩⟩,.int .i64 19,3⟩,⟨.string ⟨⟨[104,97,110,100]⟩⟩,.int .i64 20,4⟩]⟩ 5)),
 (17,.row [.slice (some ⟨873,0,none⟩) 24 1,.slice (some ⟨880,0,none⟩) 24 1,.slice (some ⟨887,0,none⟩) 24 1,.map (some 16)] 304 0),
 (18,.row [.pointer (some ⟨17,0,none⟩)] 301 0),
 (19,.row [.int .i64 29] 3 0),
 (873,.row [.int .i64 11,.int .i64 1,.int .i64 0,.int .i64 0,.int .i64 0,.int .i64 0,.int .u32 0,.int .i64 0,.int .i64 3,.int .i64 2,.int .i64 1,.int .i64 0,.int .i64 0,.int .i64 0,.int .u32 1,.int .i64 0,.int .i64 17,.int .i64 0,.int .i64 1,.int .i64 0,.int .i64 0,.int .i64 1,.int .u32 0,.int .i64 0,.int .i64 1,.int .i64 3,.int .i64 0,.int .i64 0,.int .i64 0,.int .i64 0,.int .u32 1,.int .i64 0,.int .i64 17,.int .i64 0,.int .i64 1,.int .i64 3,.int .i64 0,.int .i64 2,.int .u32 0,.int .i64 0,.int .i64 18,.int .i64 4,.int .i64 0,.int .i64 2,.int .i64 0,.int .i64 0,.int .u32 0,.int .i64 0,.int .i64 12,.int .i64 0,.int .i64 0,.int .i64 0,.int .i64 0,.int .i64 0,.int .u32 1,.int .i64 0,.int .i64 8,.int .i64 0,.int .i64 4,.int .i64 0,.int .i64 0,.int .i64 0,.int .u32 0,.int .i64 11,.int .i64 3,.int .i64 4,.int .i64 4,.int .i64 0,.int .i64 0,.int .i64 0,.int .u32 4294967295,.int .i64 0,.int .i64 17,.int .i64 0,.int .i64 4,.int .i64 2,.int .i64 0,.int .i64 1,.int .u32 0,.int .i64 0,.int .i64 21,.int .i64 5,.int .i64 1,.int .i64 0,.int .i64 0,.int .i64 2,.int .u32 0,.int .i64 (-1),.int .i64 12,.int .i64 0,.int .i64 0,.int .i64 0,.int .i64 0,.int .i64 0,.int .u32 2,.int .i64 0,.int .i64 13,.int .i64 0,.int .i64 0,.int .i64 0,.int .i64 0,.int .i64 0,.int .u32 1,.int .i64 0,.int .i64 16,.int .i64 4,.int .i64 1,.int .i64 0,.int .i64 0,.int .i64 1,.int .u32 0,.int .i64 0,.int .i64 9,.int .i64 0,.int .i64 4,.int .i64 0,.int .i64 0,.int .i64 0,.int .u32 0,.int .i64 20,.int .i64 19,.int .i64 5,.int .i64 0,.int .i64 2,.int .i64 0,.int .i64 0,.int .u32 0,.int .i64 0,.int .i64 8,.int .i64 0,.int .i64 5,.int .i64 0,.int .i64 0,.int .i64 0,.int .u32 0,.int .i64 19,.int .i64 12,.int .i64 0,.int .i64 0,.int .i64 0,.int .i64 0,.int .i64 0,.int .u32 4,.int .i64 0,.int .i64 13,.int .i64 0,.int .i64 0,.int .i64 0,.int .i64 0,.int .i64 0,.int .u32 2,.int .i64 0,.int .i64 21,.int .i64 4,.int .i64 1,.int .i64 0,.int .i64 0,.int .i64 1,.int .u32 1,.int .i64 (-1),.int .i64 3,.int .i64 4,.int .i64 4,.int .i64 0,.int .i64 0,.int .i64 0,.int .u32 4294967295,.int .i64 0,.int .i64 17,.int .i64 0,.int .i64 4,.int .i64 0,.int .i64 0,.int .i64 2,.int .u32 0,.int .i64 0,.int .i64 12,.int .i64 0,.int .i64 0,.int .i64 0,.int .i64 0,.int .i64 0,.int .u32 4,.int .i64 0,.int .i64 13,.int .i64 0,.int .i64 0,.int .i64 0,.int .i64 0,.int .i64 0,.int .u32 2,.int .i64 0] 214 1),
 (880,.row [.string ⟨⟨[]⟩⟩,.string ⟨⟨[]⟩⟩,.string ⟨⟨[]⟩⟩,.string ⟨⟨[]⟩⟩,.string ⟨⟨[]⟩⟩,.string ⟨⟨[]⟩⟩,.string ⟨⟨[]⟩⟩,.string ⟨⟨[103,111,116]⟩⟩,.string ⟨⟨[]⟩⟩,.string ⟨⟨[]⟩⟩,.string ⟨⟨[]⟩⟩,.string ⟨⟨[]⟩⟩,.string ⟨⟨[]⟩⟩,.string ⟨⟨[]⟩⟩,.string ⟨⟨[104,97,110,100]⟩⟩,.string ⟨⟨[]⟩⟩,.string ⟨⟨[108,105,110,107]⟩⟩,.string ⟨⟨[]⟩⟩,.string ⟨⟨[]⟩⟩,.string ⟨⟨[]⟩⟩,.string ⟨⟨[]⟩⟩,.string ⟨⟨[]⟩⟩,.string ⟨⟨[]⟩⟩,.string ⟨⟨[]⟩⟩] 9 1),
 (887,.row [.int .i64 2,.int .i64 3,.int .i64 4,.int .i64 5,.int .i64 6,.int .i64 7,.int .i64 8,.int .i64 9,.int .i64 10,.int .i64 11,.int .i64 12,.int .i64 14,.int .i64 15,.int .i64 17,.int .i64 18,.int .i64 19,.int .i64 20,.int .i64 21,.int .i64 22,.int .i64 24,.int .i64 26,.int .i64 27,.int .i64 28,.int .i64 29] 3 1)]
noncomputable def isVH (r:Option (Value × A)) (vs:iR) (v:Value) (n:Nat) (l:List (Nat × AO)):Bool:=
 match r with
 |some (u,a)=>T5 u v&&sW a n (fE vs++l)
 |none=>false
theorem JA {f:FuncId} {args:List Value} {r:Option (Value × A)} {vs:iR} {v:Value} {n:Nat} {l:List (Nat × AO)} (h:isVH r vs v n l=true) (hr:∀ u a,r=some (u,a)→mI f args (jU vs) u a):∃ a',mI f args (jU vs) v a'∧sW a' n (fE vs++l)=true:=by
 unfold isVH at h
 split at h
 ·rename_i u a
  simp only [Bool.and_eq_true] at h
  have e:=lY h.1
  subst e
  exact ⟨a,hr _ _ rfl,h.2⟩
 ·cases h
set_option maxRecDepth 1000000 in
theorem E3:(iS (gE Tryz.prog 1000 C4 [159] 159 [.string lJ] (jU V1)) (tQ).length (cG (tQ)) 0 13&&isVH (gE Tryz.prog 1000 C4 [159] 159 [.string lJ] (jU V1)) V1 mcsV 1004 mcsH)=true:=by kernel_rfl
theorem V5:dZ lJ tQ 0 13:=eI gQ (Bool.and_eq_true_iff.1 E3).1
noncomputable def mcsI:Callee:=relI V1 159 [.string lJ] mcsV 1004 mcsH
theorem Y6:bV Tryz.prog 12 mcsI:=by
 obtain ⟨a',h1,h2⟩:=JA (f:=159) (args:= [.string lJ]) (Bool.and_eq_true_iff.1 E3).2 (fun u a h=>mI.LW (AF gQ wide [159]) h)
 exact rel_ok cY h1 rfl h2 (by kernel_rfl) (by decide)
end Go.Proofs.YtjopodnlffaogaaGreatDoor.Abs
end
