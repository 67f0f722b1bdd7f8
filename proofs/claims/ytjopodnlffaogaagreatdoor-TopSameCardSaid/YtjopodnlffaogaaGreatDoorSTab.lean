/- A part of the proof of TopSame: TpTab. -/
import Derived.Test.YtjopodnlffaogaaGreatDoorSAbs21
set_option linter.unusedVariables false
set_option linter.unusedSimpArgs false
set_option maxRecDepth 100000
set_option maxHeartbeats 4000000
section
namespace Go.Proofs.YtjopodnlffaogaaGreatDoor.Abs
def cF (vs:iR) (f:FuncId) (tab:List (List Value × Value)):Prop:=∀ r∈tab,fC r.1=true∧flat r.2=true∧tJ Tryz.prog vs f r.1 r.2
theorem cF.callee {vs:iR} {f:FuncId} {tab:List (List Value × Value)} (h:cF vs f tab):bV Tryz.prog 12 (yL vs f tab):=tab_ok h
theorem cF.append {vs:iR} {f:FuncId} {t1 t2:List (List Value × Value)} (h1:cF vs f t1) (h2:cF vs f t2):cF vs f (t1++t2):=fun r hr=>by
 rcases List.mem_append.1 hr with hr|hr
 ·exact h1 r hr
 ·exact h2 r hr
noncomputable def LQ (vs:iR) (f:FuncId) (call:Callee) (tab:List (List Value × Value)):Bool:=List.rec (motive:=fun _=>Bool) true (fun r _ k=>match OM (call f r.1 (jU vs)) r.2 with
 |true=>k
 |false=>false) tab
noncomputable def KO (tab:List (List Value × Value)):Bool:=List.rec (motive:=fun _=>Bool) true (fun r _ k=>match fC r.1&&flat r.2 with
 |true=>k
 |false=>false) tab
theorem bO {vs:iR} (hv:jW vs=true) {f:FuncId} {call:Callee} (hc:bV Tryz.prog 12 call):∀ {tab:List (List Value × Value)},KO tab=true→LQ vs f call tab=true→cF vs f tab
 | [],_,_=>fun r hr=>by cases hr
 |x :: tab,h1,h2=>by
  have g1:(match fC x.1&&flat x.2 with|true=>KO tab|false=>false)=true:=h1
  have g2:(match OM (call f x.1 (jU vs)) x.2 with|true=>LQ vs f call tab|false=>false)=true:=h2
  split at g1
  ·rename_i hx
   simp only [Bool.and_eq_true] at hx
   split at g2
   ·rename_i hs
    have ih:=bO hv hc g1 g2
    intro r hr
    rcases List.mem_cons.1 hr with rfl|hr
    ·exact ⟨hx.1,hx.2,wF hc hv hx.1 hx.2 hs⟩
    ·exact ih r hr
   ·cases g2
  ·cases g1
theorem SB:jW ([]:iR)=true:=by kernel_rfl
theorem cY:jW V1=true:=by kernel_rfl
def ofT:List (List Value × Value):= [([.int .i64 0],.agg ⟨[.string ⟨⟨[]⟩⟩,.string ⟨⟨[]⟩⟩]⟩),
 ([.int .i64 1],.agg ⟨[.string ⟨⟨[99,111,110,115,116]⟩⟩,.string ⟨⟨[68,75]⟩⟩]⟩),
 ([.int .i64 2],.agg ⟨[.string ⟨⟨[109,111,118,101]⟩⟩,.string ⟨⟨[68,83]⟩⟩]⟩),
 ([.int .i64 3],.agg ⟨[.string ⟨⟨[97,100,100,107]⟩⟩,.string ⟨⟨[68,83,75]⟩⟩]⟩),
 ([.int .i64 4],.agg ⟨[.string ⟨⟨[97,110,100,107]⟩⟩,.string ⟨⟨[68,83,75]⟩⟩]⟩),
 ([.int .i64 5],.agg ⟨[.string ⟨⟨[115,104,108]⟩⟩,.string ⟨⟨[68,83,66]⟩⟩]⟩),
 ([.int .i64 6],.agg ⟨[.string ⟨⟨[115,104,114]⟩⟩,.string ⟨⟨[68,83,66]⟩⟩]⟩),
 ([.int .i64 7],.agg ⟨[.string ⟨⟨[111,114]⟩⟩,.string ⟨⟨[68,83,84]⟩⟩]⟩),
 ([.int .i64 8],.agg ⟨[.string ⟨⟨[98,101,113]⟩⟩,.string ⟨⟨[83,84,80]⟩⟩]⟩),
 ([.int .i64 9],.agg ⟨[.string ⟨⟨[98,110,101]⟩⟩,.string ⟨⟨[83,84,80]⟩⟩]⟩),
 ([.int .i64 10],.agg ⟨[.string ⟨⟨[106,117,109,112]⟩⟩,.string ⟨⟨[80]⟩⟩]⟩),
 ([.int .i64 11],.agg ⟨[.string ⟨⟨[115,101,108,102]⟩⟩,.string ⟨⟨[68]⟩⟩]⟩),
 ([.int .i64 12],.agg ⟨[.string ⟨⟨[109,97,114,107]⟩⟩,.string ⟨⟨[77]⟩⟩]⟩),
 ([.int .i64 13],.agg ⟨[.string ⟨⟨[100,111,110,101]⟩⟩,.string ⟨⟨[79]⟩⟩]⟩),
 ([.int .i64 14],.agg ⟨[.string ⟨⟨[]⟩⟩,.string ⟨⟨[]⟩⟩]⟩),
 ([.int .i64 15],.agg ⟨[.string ⟨⟨[]⟩⟩,.string ⟨⟨[]⟩⟩]⟩),
 ([.int .i64 16],.agg ⟨[.string ⟨⟨[108,111,97,100]⟩⟩,.string ⟨⟨[68,65,83]⟩⟩]⟩),
 ([.int .i64 17],.agg ⟨[.string ⟨⟨[115,116,111,114,101]⟩⟩,.string ⟨⟨[65,83,84]⟩⟩]⟩),
 ([.int .i64 18],.agg ⟨[.string ⟨⟨[115,119,97,112]⟩⟩,.string ⟨⟨[68,65,83,84]⟩⟩]⟩),
 ([.int .i64 19],.agg ⟨[.string ⟨⟨[99,97,115]⟩⟩,.string ⟨⟨[68,65,83,84,85]⟩⟩]⟩),
 ([.int .i64 20],.agg ⟨[.string ⟨⟨[102,97,100,100]⟩⟩,.string ⟨⟨[68,65,83,75]⟩⟩]⟩),
 ([.int .i64 21],.agg ⟨[.string ⟨⟨[97,119,97,105,116]⟩⟩,.string ⟨⟨[68,65,83,87]⟩⟩]⟩),
 ([.int .i64 22],.agg ⟨[.string ⟨⟨[116,97,107,101]⟩⟩,.string ⟨⟨[68]⟩⟩]⟩),
 ([.int .i64 23],.agg ⟨[.string ⟨⟨[102,114,101,101]⟩⟩,.string ⟨⟨[83]⟩⟩]⟩)]
set_option maxRecDepth 1000000 in
theorem IE:cF [] 209 ofT:=bO SB QU (by kernel_rfl) (by kernel_rfl)
def KT:List (List Value × Value):= [([.int .u8 75],.tuple ⟨[.int .u32 0,.int .u32 4294967295,.bool true]⟩),
 ([.int .u8 66],.tuple ⟨[.int .u32 0,.int .u32 31,.bool true]⟩),
 ([.int .u8 77],.tuple ⟨[.int .u32 1,.int .u32 4,.bool true]⟩),
 ([.int .u8 79],.tuple ⟨[.int .u32 0,.int .u32 3,.bool true]⟩),
 ([.int .u8 87],.tuple ⟨[.int .u32 0,.int .u32 1,.bool true]⟩),
 ([.int .u8 68],.tuple ⟨[.int .u32 0,.int .u32 0,.bool false]⟩),
 ([.int .u8 83],.tuple ⟨[.int .u32 0,.int .u32 0,.bool false]⟩),
 ([.int .u8 84],.tuple ⟨[.int .u32 0,.int .u32 0,.bool false]⟩),
 ([.int .u8 85],.tuple ⟨[.int .u32 0,.int .u32 0,.bool false]⟩),
 ([.int .u8 65],.tuple ⟨[.int .u32 0,.int .u32 0,.bool false]⟩),
 ([.int .u8 80],.tuple ⟨[.int .u32 0,.int .u32 0,.bool false]⟩)]
set_option maxRecDepth 1000000 in
theorem KB:cF [] 211 KT:=bO SB QU (by kernel_rfl) (by kernel_rfl)
def LH:List (List Value × Value):= [([.string ⟨⟨[114,49]⟩⟩],.int .i64 1),
 ([.string ⟨⟨[48]⟩⟩],.int .i64 0),
 ([.string ⟨⟨[114,48]⟩⟩],.int .i64 0),
 ([.string ⟨⟨[49]⟩⟩],.int .i64 1),
 ([.string ⟨⟨[114,50]⟩⟩],.int .i64 2),
 ([.string ⟨⟨[101,113]⟩⟩],.int .i64 0),
 ([.string ⟨⟨[50]⟩⟩],.int .i64 2),
 ([.string ⟨⟨[52]⟩⟩],.int .i64 4),
 ([.string ⟨⟨[114,51]⟩⟩],.int .i64 3),
 ([.string ⟨⟨[114,52]⟩⟩],.int .i64 4),
 ([.string ⟨⟨[114,53]⟩⟩],.int .i64 5),
 ([.string ⟨⟨[114,54]⟩⟩],.int .i64 6),
 ([.string ⟨⟨[110,101]⟩⟩],.int .i64 0),
 ([.string ⟨⟨[116,117,114,110]⟩⟩],.int .i64 0),
 ([.string ⟨⟨[114,55]⟩⟩],.int .i64 7),
 ([.string ⟨⟨[103,111,116]⟩⟩],.int .i64 0),
 ([.string ⟨⟨[52,50,57,52,57,54,55,50,57,53]⟩⟩],.int .i64 4294967295),
 ([.string ⟨⟨[104,97,110,100]⟩⟩],.int .i64 0),
 ([.string ⟨⟨[108,105,110,107]⟩⟩],.int .i64 0),
 ([.string ⟨⟨[113,117,101,117,101]⟩⟩],.int .i64 0),
 ([.string ⟨⟨[97,103,97,105,110]⟩⟩],.int .i64 0),
 ([.string ⟨⟨[51]⟩⟩],.int .i64 3),
 ([.string ⟨⟨[102,105,114,115,116]⟩⟩],.int .i64 0),
 ([.string ⟨⟨[52,50,57,52,57,54,55,50,57,52]⟩⟩],.int .i64 4294967294),
 ([.string ⟨⟨[119,97,105,116]⟩⟩],.int .i64 0),
 ([.string ⟨⟨[104,97,115]⟩⟩],.int .i64 0),
 ([.string ⟨⟨[111,117,116]⟩⟩],.int .i64 0),
 ([.string ⟨⟨[98,101,104,105,110,100]⟩⟩],.int .i64 0),
 ([.string ⟨⟨[102,117,108,108]⟩⟩],.int .i64 0),
 ([.string ⟨⟨[101,108,115,101]⟩⟩],.int .i64 0),
 ([.string ⟨⟨[108,101,97,118,101]⟩⟩],.int .i64 0),
 ([.string ⟨⟨[108,111,111,107]⟩⟩],.int .i64 0),
 ([.string ⟨⟨[115,116,97,121]⟩⟩],.int .i64 0),
 ([.string ⟨⟨[115,107,105,112]⟩⟩],.int .i64 0),
 ([.string ⟨⟨[117,110,108,111,99,107]⟩⟩],.int .i64 0),
 ([.string ⟨⟨[55]⟩⟩],.int .i64 7),
 ([.string ⟨⟨[49,53]⟩⟩],.int .i64 15),
 ([.string ⟨⟨[51,49]⟩⟩],.int .i64 31),
 ([.string ⟨⟨[54,51]⟩⟩],.int .i64 63)]
set_option maxRecDepth 1000000 in
theorem IK:cF V1 283 LH:=bO cY QU (by kernel_rfl) (by kernel_rfl)
noncomputable def C0:Callee:=run Tryz.prog 12 (or (yL [] 209 ofT) I1) 1000 30
theorem C0_ok:bV Tryz.prog 12 C0:=qB (rI IE.callee AD) wide fit 1000 30
def U9:List (List Value × Value):= [([.string ⟨⟨[99,111,110,115,116]⟩⟩],.int .i64 1),
 ([.string ⟨⟨[109,111,118,101]⟩⟩],.int .i64 2),
 ([.string ⟨⟨[97,100,100,107]⟩⟩],.int .i64 3),
 ([.string ⟨⟨[97,110,100,107]⟩⟩],.int .i64 4),
 ([.string ⟨⟨[115,104,108]⟩⟩],.int .i64 5),
 ([.string ⟨⟨[115,104,114]⟩⟩],.int .i64 6),
 ([.string ⟨⟨[111,114]⟩⟩],.int .i64 7),
 ([.string ⟨⟨[98,101,113]⟩⟩],.int .i64 8),
 ([.string ⟨⟨[98,110,101]⟩⟩],.int .i64 9),
 ([.string ⟨⟨[106,117,109,112]⟩⟩],.int .i64 10),
 ([.string ⟨⟨[115,101,108,102]⟩⟩],.int .i64 11),
 ([.string ⟨⟨[109,97,114,107]⟩⟩],.int .i64 12),
 ([.string ⟨⟨[100,111,110,101]⟩⟩],.int .i64 13),
 ([.string ⟨⟨[108,111,97,100]⟩⟩],.int .i64 16),
 ([.string ⟨⟨[115,116,111,114,101]⟩⟩],.int .i64 17),
 ([.string ⟨⟨[115,119,97,112]⟩⟩],.int .i64 18),
 ([.string ⟨⟨[99,97,115]⟩⟩],.int .i64 19),
 ([.string ⟨⟨[102,97,100,100]⟩⟩],.int .i64 20),
 ([.string ⟨⟨[97,119,97,105,116]⟩⟩],.int .i64 21),
 ([.string ⟨⟨[116,97,107,101]⟩⟩],.int .i64 22),
 ([.string ⟨⟨[102,114,101,101]⟩⟩],.int .i64 23)]
set_option maxRecDepth 1000000 in
theorem OG:cF [] 282 U9:=bO SB C0_ok (by kernel_rfl) (by kernel_rfl)
noncomputable def I3:Callee:=or (yL [] 209 ofT) (or (yL [] 282 U9) (or (yL [] 211 KT) (or (yL V1 283 LH) I1)))
theorem I3_ok:bV Tryz.prog 12 I3:=rI IE.callee (rI OG.callee (rI KB.callee (rI IK.callee AD)))
noncomputable def C3:Callee:=run Tryz.prog 12 I3 1000 30
theorem dL:bV Tryz.prog 12 C3:=qB I3_ok wide fit 1000 30
end Go.Proofs.YtjopodnlffaogaaGreatDoor.Abs
end
