/- A part of the proof of TopConfig: TpARight, TpCode, TpQSpec0, TpExec, TpRSpec0, TpRSpecMcs, TpRSpecK42, TpRSpecMcstry, TpRSpecClhtry, TpRSpecGraunke, TpRSpecTicket, TpRSpecClh, TpAll, TpAbs22, TpRAsm0. -/
import Derived.Test.YtjopodnlffaogaaGreatDoorQIRight
import Derived.Test.YtjopodnlffaogaaGreatDoorQOneA
import Derived.Test.YtjopodnlffaogaaGreatDoorQOneB
import Derived.Test.YtjopodnlffaogaaGreatDoorQOneC
import Derived.Test.YtjopodnlffaogaaGreatDoorQOneD
import Derived.Test.YtjopodnlffaogaaGreatDoorQOneE
import Derived.Test.YtjopodnlffaogaaGreatDoorQSpecAnderson
import Derived.Test.YtjopodnlffaogaaGreatDoorQSpecBad
import Derived.Laws.CopyOwn
section
namespace Go.Proofs.YtjopodnlffaogaaGreatDoor.Tp
open Go.RowKit Go.Proofs.YtjopodnlffaogaaGreatDoorW.PrintWords Go.Proofs.YtjopodnlffaogaaGreatDoorW.PrintLast Go.Proofs.YtjopodnlffaogaaGreatDoorW.PrintMore
attribute [local go_sem] max2_int min2_int max_two min_two max_three min_three max_four min_four
set_option linter.unusedVariables false
set_option linter.unusedSimpArgs false
theorem at_kins {w : World} {A : Option Addr} {n : Nat} {xs : List Ins} (h : Kd.C kins w A n xs) (i : Nat) (h1 : i < n) : ∃ ad, A = some ad ∧ w.cell? (ad.add (i * 8)) = some (.int .i64 (xs.getD i insZero).op) ∧ w.cell? ⟨(ad.add (i * 8)).block, (ad.add (i * 8)).off + 1, none⟩ = some (.int .i64 (xs.getD i insZero).d) ∧ w.cell? ⟨(ad.add (i * 8)).block, (ad.add (i * 8)).off + 2, none⟩ = some (.int .i64 (xs.getD i insZero).s) ∧ w.cell? ⟨(ad.add (i * 8)).block, (ad.add (i * 8)).off + 3, none⟩ = some (.int .i64 (xs.getD i insZero).t) ∧ w.cell? ⟨(ad.add (i * 8)).block, (ad.add (i * 8)).off + 4, none⟩ = some (.int .i64 (xs.getD i insZero).u) ∧ w.cell? ⟨(ad.add (i * 8)).block, (ad.add (i * 8)).off + 5, none⟩ = some (.int .i64 (xs.getD i insZero).a) ∧ w.cell? ⟨(ad.add (i * 8)).block, (ad.add (i * 8)).off + 6, none⟩ = some (.int .u32 (xs.getD i insZero).k) ∧ w.cell? ⟨(ad.add (i * 8)).block, (ad.add (i * 8)).off + 7, none⟩ = some (.int .i64 (xs.getD i insZero).to_) := by
  obtain ⟨ad, c, e, _, hK, hc0⟩ := Kd.C_get h insZero (i : Int) (by omega) (by omega)
  simp only [Int.toNat_natCast] at hK hc0
  have hc : ∀ j u, c[j]? = some u → w.cell? (ad.add (i * 8 + j)) = some u := hc0
  obtain rfl := kins_open hK
  exact ⟨ad, e, hc 0 _ rfl, by rw [← add_field _ _ 1 (by omega)]; exact hc 1 _ rfl, by rw [← add_field _ _ 2 (by omega)]; exact hc 2 _ rfl, by rw [← add_field _ _ 3 (by omega)]; exact hc 3 _ rfl, by rw [← add_field _ _ 4 (by omega)]; exact hc 4 _ rfl, by rw [← add_field _ _ 5 (by omega)]; exact hc 5 _ rfl, by rw [← add_field _ _ 6 (by omega)]; exact hc 6 _ rfl, by rw [← add_field _ _ 7 (by omega)]; exact hc 7 _ rfl⟩
structure GoodI (n : Int) (i : Ins) : Prop where
  of_ : ∃ nm has, inst_of.f i.op = some (nm, has) ∧ nm.toList.isEmpty = false ∧ (∀ c ∈ bytesOf has, isSign c) ∧ has.size ≤ 8 ∧ rightL n (bytesOf has) { i with op := 0 } = some true
  k : 0 ≤ i.k ∧ i.k < 4294967296
def isSignB (c : Int) : Bool := [68, 83, 84, 85, 65, 75, 66, 77, 79, 87, 80].contains c
theorem isSignB_spec {c : Int} (h : isSignB c = true) : isSign c := by
  simp [isSignB] at h
  unfold isSign
  omega
def goodB (n : Int) (i : Ins) : Bool := (match inst_of.f i.op with
  | some (nm, has) => !nm.toList.isEmpty && (bytesOf has).all isSignB && decide (has.size ≤ 8) && (rightL n (bytesOf has) { i with op := 0 } == some true)
  | none => false) && decide (0 ≤ i.k) && decide (i.k < 4294967296)
theorem goodB_spec {n : Int} {i : Ins} (h : goodB n i = true) : GoodI n i := by
  unfold goodB at h
  simp only [Bool.and_eq_true, decide_eq_true_eq] at h
  obtain ⟨⟨h1, h2⟩, h3⟩ := h
  refine ⟨?_, h2, h3⟩
  split at h1
  · rename_i nm has hof
    simp only [Bool.and_eq_true, decide_eq_true_eq, Bool.not_eq_true', beq_iff_eq] at h1
    obtain ⟨⟨⟨a1, a2⟩, a3⟩, a4⟩ := h1
    exact ⟨nm, has, hof, a1, fun c hc => isSignB_spec (List.all_eq_true.1 a2 c hc), a3, a4⟩
  · cases h1
theorem good_calls {n : Int} {i : Ins} (h : GoodI n i) (w : World) : Calls Tryz.prog 176 #[.agg (insC i), .int .i64 n] w fun e w' => e = .returned (.bool true) ∧ Below w.heap.size w w' := by
  obtain ⟨nm, has, h1, h2, h3, h4, h5⟩ := h.of_
  exact iright_calls i n nm has true w h1 h2 h3 h4 h.k.1 h.k.2 h5
set_option maxHeartbeats 4000000 in
set_option maxRecDepth 100000 in
theorem aright1_calls {n : Int} {i : Ins} (h : GoodI n i) (b : Nat) (w : World) (hb : w.heap[b]? = some (.cells #[.int .i64 n] 3 (0, 0))) : Calls Tryz.prog 175 #[.agg (insC i), .pointer (some ⟨b, 0, none⟩)] w fun e w' => e = .returned (.bool false) ∧ Below w.heap.size w w' := by
  have P := Aside0.mk (fun W => good_calls h W)
  have c0 := (blk_cell hb 0).trans rfl
  have z : b < w.heap.size := blk_lt hb
  clear h hb
  obtain ⟨op, d, s, t, u, a, k, z_⟩ := i
  show Calls Tryz.prog 175 #[.agg #[.int .i64 op, .int .i64 d, .int .i64 s, .int .i64 t, .int .i64 u, .int .i64 a, .int .u32 k, .int .i64 z_], .pointer (some ⟨b, 0, none⟩)] w _
  go_enter Tryz.func175, Tryz.ntmps175
  go_wp2_with (go_at_call 176; refine (P.out _).mono ?_; rintro e w1 ⟨rfl, hb⟩; have HB := Aside0.mk hb; clear hb)
  go_ret
  exact ⟨rfl, below_step (below_alloc (Below.refl _ _) _) HB.out⟩
set_option maxHeartbeats 4000000 in
set_option maxRecDepth 100000 in
theorem idxFunc_calls (A : Option Addr) (c : Nat) (l : List Ins) (n : Int) (b : Nat) (w : World) (hC : Kd.C kins w A l.length l) (hb : w.heap[b]? = some (.cells #[.int .i64 n] 3 (0, 0))) (hg : ∀ i ∈ l, GoodI n i) (hl : l.length ≤ 64) :
    Calls Tryz.prog 208 #[.slice A l.length c, .func (.func 175) #[] #[.pointer (some ⟨b, 0, none⟩)]] w fun e w' => e = .returned (.int .i64 (-1)) ∧ Below w.heap.size w w' := by
  have HC := Aside0.mk hC
  have HBb := Aside0.mk hb
  have HG := Aside0.mk hg
  clear hC hb hg
  go_enter Tryz.func208, Tryz.ntmps208
  go_wp2
  go_loopw [8] (fun v wr => ∃ k : Nat, k ≤ l.length ∧ v = .int .i64 k ∧ Aside0 (Below w.heap.size w wr)) (fun v _ => l.length - (intOf v).toNat)
  case atStart => exact ⟨0, Nat.zero_le _, rfl, ⟨Below.refl _ _⟩⟩
  case round =>
    obtain ⟨k, hk, rfl, HB⟩ := hrel
    by_cases hlt : k < l.length
    · have hT : decide ((k : Int) < (l.length : Int)) = true := decide_eq_true (by omega)
      have h1 : (k : Int) < (l.length : Int) := by omega
      obtain ⟨ad, rfl, x0, x1, x2, x3, x4, x5, x6, x7⟩ := at_kins HC.out k hlt
      replace x0 := (HB.out.cell (World.block_lt_of_cell? w _ x0)).trans x0
      replace x1 := (HB.out.cell (World.block_lt_of_cell? w _ x1)).trans x1
      replace x2 := (HB.out.cell (World.block_lt_of_cell? w _ x2)).trans x2
      replace x3 := (HB.out.cell (World.block_lt_of_cell? w _ x3)).trans x3
      replace x4 := (HB.out.cell (World.block_lt_of_cell? w _ x4)).trans x4
      replace x5 := (HB.out.cell (World.block_lt_of_cell? w _ x5)).trans x5
      replace x6 := (HB.out.cell (World.block_lt_of_cell? w _ x6)).trans x6
      replace x7 := (HB.out.cell (World.block_lt_of_cell? w _ x7)).trans x7
      have hgi := HG.out (l.getD k insZero) (by rw [List.getD_eq_getElem?_getD, List.getElem?_eq_getElem hlt]; exact List.getElem_mem _)
      generalize l.getD k insZero = i at x0 x1 x2 x3 x4 x5 x6 x7 hgi
      have P := Aside0.mk (fun (W : World) (h : W.heap[b]? = some (.cells #[.int .i64 n] 3 (0, 0))) => aright1_calls hgi b W h)
      have B0 := Aside0.mk ((HB.out.block b (blk_lt HBb.out)).trans HBb.out)
      clear hgi
      go_wp2_with (go_at_call 175; refine (P.out _ B0.out).mono ?_; rintro e w1 ⟨rfl, hb⟩; have HB1 := Aside0.mk (below_step HB.out hb); clear hb)
      go_roundw
      case rel => exact ⟨k + 1, by omega, by go_num, HB1⟩
      case measure => simp [intOf]; omega
    · have e : k = l.length := by omega
      subst e
      have hT : decide ((l.length : Int) < (l.length : Int)) = false := decide_eq_false (by omega)
      go_wp2
      go_ret
      exact ⟨rfl, HB.out⟩
theorem contFunc_calls (A : Option Addr) (c : Nat) (l : List Ins) (n : Int) (b : Nat) (w : World) (hC : Kd.C kins w A l.length l) (hb : w.heap[b]? = some (.cells #[.int .i64 n] 3 (0, 0))) (hg : ∀ i ∈ l, GoodI n i) (hl : l.length ≤ 64) :
    Calls Tryz.prog 174 #[.slice A l.length c, .func (.func 175) #[] #[.pointer (some ⟨b, 0, none⟩)]] w fun e w' => e = .returned (.bool false) ∧ Below w.heap.size w w' := by
  have P := Aside0.mk (idxFunc_calls A c l n b w hC hb hg hl)
  clear hC hb hg hl
  go_enter Tryz.func174, Tryz.ntmps174
  go_wp2_with (go_at_call 208; refine P.out.mono ?_; rintro e w1 ⟨rfl, hb⟩; have HB1 := Aside0.mk hb; clear hb)
  go_ret
  exact ⟨rfl, HB1.out⟩
set_option maxHeartbeats 4000000 in
theorem aright_lt (A : Option Addr) (c : Nat) (l : List Ins) (lo un : Int) (w : World) (hC : Kd.C kins w A l.length l) (hg : ∀ i ∈ l, GoodI l.length i) (h0 : 1 ≤ l.length) (h1 : l.length ≤ 64) (l0 : 0 ≤ lo) (l1 : lo < l.length) (u0 : 0 ≤ un) (u1 : un < l.length) (hle : lo < un) :
    Calls Tryz.prog 115 #[.agg #[.slice A l.length c, .int .i64 lo, .int .i64 un]] w fun e w' => e = .returned (.bool true) ∧ Below w.heap.size w w' := by
  have P := Aside0.mk (fun (W : World) (b : Nat) (hb : W.heap[b]? = some (.cells #[.int .i64 (l.length : Int)] 3 (0, 0))) (hC : Kd.C kins W A l.length l) => contFunc_calls A c l l.length b W hC hb hg h1)
  have HC := Aside0.mk hC
  have e0 : decide ((l.length : Int) < 1) = false := decide_eq_false (by omega)
  have e1 : decide (64 < (l.length : Int)) = false := decide_eq_false (by omega)
  have e2 : decide (un < 0) = false := decide_eq_false (by omega)
  have e3 : decide ((l.length : Int) ≤ lo) = false := decide_eq_false (by omega)
  have e4 : decide (lo < 0) = false := decide_eq_false (by omega)
  have e5 : decide ((l.length : Int) ≤ un) = false := decide_eq_false (by omega)
  have B1 := Aside0.mk (show ((w.alloc (.cells #[.slice A l.length c, .int .i64 lo, .int .i64 un] 112)).alloc (.cells #[.int .i64 (l.length : Int)] 3)).heap[w.heap.size + 1]? = some (.cells #[.int .i64 (l.length : Int)] 3 (0, 0)) from by
    have := blk_new (w.alloc (.cells #[.slice A l.length c, .int .i64 lo, .int .i64 un] 112)) (.cells #[.int .i64 (l.length : Int)] 3)
    simpa using this)
  have q1 : lo < un := hle
  have q2 : ¬ un < lo := by omega
  have hmf : ∀ (fn : Fn) (first cap : Array Value) (W : World), (Instr.makeFunc fn first cap).run Tryz.prog W = .ok (.func fn first cap) W := fun _ _ _ _ => rfl
  clear hC hg h0 h1 l0 l1 u0 u1 hle
  go_enter Tryz.func115, Tryz.ntmps115
  go_wp2_with (go_at_call 174; refine (P.out _ (w.heap.size + 1) B1.out (Kd.C_alloc (Kd.C_alloc HC.out _) _)).mono ?_; rintro e w1 ⟨rfl, hb⟩; have HB1 := Aside0.mk hb; clear hb)
  go_ret
  exact ⟨rfl, below_step (below_alloc (below_alloc (Below.refl _ _) _) _) HB1.out⟩
set_option maxHeartbeats 4000000 in
theorem aright_gt (A : Option Addr) (c : Nat) (l : List Ins) (lo un : Int) (w : World) (hC : Kd.C kins w A l.length l) (hg : ∀ i ∈ l, GoodI l.length i) (h0 : 1 ≤ l.length) (h1 : l.length ≤ 64) (l0 : 0 ≤ lo) (l1 : lo < l.length) (u0 : 0 ≤ un) (u1 : un < l.length) (hle : un < lo) :
    Calls Tryz.prog 115 #[.agg #[.slice A l.length c, .int .i64 lo, .int .i64 un]] w fun e w' => e = .returned (.bool true) ∧ Below w.heap.size w w' := by
  have P := Aside0.mk (fun (W : World) (b : Nat) (hb : W.heap[b]? = some (.cells #[.int .i64 (l.length : Int)] 3 (0, 0))) (hC : Kd.C kins W A l.length l) => contFunc_calls A c l l.length b W hC hb hg h1)
  have HC := Aside0.mk hC
  have e0 : decide ((l.length : Int) < 1) = false := decide_eq_false (by omega)
  have e1 : decide (64 < (l.length : Int)) = false := decide_eq_false (by omega)
  have e2 : decide (un < 0) = false := decide_eq_false (by omega)
  have e3 : decide ((l.length : Int) ≤ lo) = false := decide_eq_false (by omega)
  have e4 : decide (lo < 0) = false := decide_eq_false (by omega)
  have e5 : decide ((l.length : Int) ≤ un) = false := decide_eq_false (by omega)
  have B1 := Aside0.mk (show ((w.alloc (.cells #[.slice A l.length c, .int .i64 lo, .int .i64 un] 112)).alloc (.cells #[.int .i64 (l.length : Int)] 3)).heap[w.heap.size + 1]? = some (.cells #[.int .i64 (l.length : Int)] 3 (0, 0)) from by
    have := blk_new (w.alloc (.cells #[.slice A l.length c, .int .i64 lo, .int .i64 un] 112)) (.cells #[.int .i64 (l.length : Int)] 3)
    simpa using this)
  have q1 : ¬ lo < un := by omega
  have q2 : un < lo := hle
  have hmf : ∀ (fn : Fn) (first cap : Array Value) (W : World), (Instr.makeFunc fn first cap).run Tryz.prog W = .ok (.func fn first cap) W := fun _ _ _ _ => rfl
  clear hC hg h0 h1 l0 l1 u0 u1 hle
  go_enter Tryz.func115, Tryz.ntmps115
  go_wp2_with (go_at_call 174; refine (P.out _ (w.heap.size + 1) B1.out (Kd.C_alloc (Kd.C_alloc HC.out _) _)).mono ?_; rintro e w1 ⟨rfl, hb⟩; have HB1 := Aside0.mk hb; clear hb)
  go_ret
  exact ⟨rfl, below_step (below_alloc (below_alloc (Below.refl _ _) _) _) HB1.out⟩
set_option maxHeartbeats 4000000 in
theorem aright_eq (A : Option Addr) (c : Nat) (l : List Ins) (lo : Int) (w : World) (hC : Kd.C kins w A l.length l) (hg : ∀ i ∈ l, GoodI l.length i) (h0 : 1 ≤ l.length) (h1 : l.length ≤ 64) (l0 : 0 ≤ lo) (l1 : lo < l.length) :
    Calls Tryz.prog 115 #[.agg #[.slice A l.length c, .int .i64 lo, .int .i64 lo]] w fun e w' => e = .returned (.bool true) ∧ Below w.heap.size w w' := by
  have P := Aside0.mk (fun (W : World) (b : Nat) (hb : W.heap[b]? = some (.cells #[.int .i64 (l.length : Int)] 3 (0, 0))) (hC : Kd.C kins W A l.length l) => contFunc_calls A c l l.length b W hC hb hg h1)
  have HC := Aside0.mk hC
  have e0 : decide ((l.length : Int) < 1) = false := decide_eq_false (by omega)
  have e1 : decide (64 < (l.length : Int)) = false := decide_eq_false (by omega)
  have e2 : decide (lo < 0) = false := decide_eq_false (by omega)
  have e3 : decide ((l.length : Int) ≤ lo) = false := decide_eq_false (by omega)
  have B1 := Aside0.mk (show ((w.alloc (.cells #[.slice A l.length c, .int .i64 lo, .int .i64 lo] 112)).alloc (.cells #[.int .i64 (l.length : Int)] 3)).heap[w.heap.size + 1]? = some (.cells #[.int .i64 (l.length : Int)] 3 (0, 0)) from by
    have := blk_new (w.alloc (.cells #[.slice A l.length c, .int .i64 lo, .int .i64 lo] 112)) (.cells #[.int .i64 (l.length : Int)] 3)
    simpa using this)
  have hmf : ∀ (fn : Fn) (first cap : Array Value) (W : World), (Instr.makeFunc fn first cap).run Tryz.prog W = .ok (.func fn first cap) W := fun _ _ _ _ => rfl
  clear hC hg h0 h1 l0 l1
  go_enter Tryz.func115, Tryz.ntmps115
  go_wp2_with (go_at_call 174; refine (P.out _ (w.heap.size + 1) B1.out (Kd.C_alloc (Kd.C_alloc HC.out _) _)).mono ?_; rintro e w1 ⟨rfl, hb⟩; have HB1 := Aside0.mk hb; clear hb)
  go_ret
  exact ⟨rfl, below_step (below_alloc (below_alloc (Below.refl _ _) _) _) HB1.out⟩
theorem aright_calls (A : Option Addr) (c : Nat) (l : List Ins) (lo un : Int) (w : World) (hC : Kd.C kins w A l.length l) (hg : ∀ i ∈ l, GoodI l.length i) (h0 : 1 ≤ l.length) (h1 : l.length ≤ 64) (l0 : 0 ≤ lo) (l1 : lo < l.length) (u0 : 0 ≤ un) (u1 : un < l.length) :
    Calls Tryz.prog 115 #[.agg #[.slice A l.length c, .int .i64 lo, .int .i64 un]] w fun e w' => e = .returned (.bool true) ∧ Below w.heap.size w w' := by
  rcases Int.lt_trichotomy lo un with h | rfl | h
  · exact aright_lt A c l lo un w hC hg h0 h1 l0 l1 u0 u1 h
  · exact aright_eq A c l lo w hC hg h0 h1 l0 l1
  · exact aright_gt A c l lo un w hC hg h0 h1 l0 l1 u0 u1 h
set_option maxHeartbeats 4000000 in
set_option maxRecDepth 100000 in
theorem acopy_calls (A : Option Addr) (c : Nat) (l : List Ins) (lo un : Int) (w : World) (hC : Kd.C kins w A l.length l) (hc : l.length ≤ c) (hn : A = none → l = []) (hl : l.length ≤ 64) :
    Calls Tryz.prog 116 #[.agg #[.slice A l.length c, .int .i64 lo, .int .i64 un]] w fun e w' => ∃ v, e = .returned (.agg #[v, .int .i64 lo, .int .i64 un]) ∧ Kd.R kins 214 w' w.heap.size (fun _ => True) v l ∧ Below w.heap.size w w' := by
  have P := Aside0.mk (fun (W : World) (hC : Kd.C kins W A l.length l) => cloneIns_calls A c l W hC hc hn (by omega))
  have HC := Aside0.mk hC
  clear hC hc hn hl
  go_enter Tryz.func116, Tryz.ntmps116
  go_wp2_with fail
  have B0 := Aside0.mk (blk_alloc (blk_new w (.cells #[.slice A l.length c, .int .i64 lo, .int .i64 un] 112)) (.cells #[.slice none 0 0, .int .i64 0, .int .i64 0] 112))
  have B1 := Aside0.mk (show ((w.alloc (.cells #[.slice A l.length c, .int .i64 lo, .int .i64 un] 112)).alloc (.cells #[.slice none 0 0, .int .i64 0, .int .i64 0] 112)).heap[w.heap.size + 1]? = some (.cells #[.slice none 0 0, .int .i64 0, .int .i64 0] 112 (0, 0)) from by
    have := blk_new (w.alloc (.cells #[.slice A l.length c, .int .i64 lo, .int .i64 un] 112)) (.cells #[.slice none 0 0, .int .i64 0, .int .i64 0] 112)
    simpa using this)
  have HC2 := Aside0.mk (Kd.C_alloc (Kd.C_alloc HC.out (.cells #[.slice A l.length c, .int .i64 lo, .int .i64 un] 112)) (.cells #[.slice none 0 0, .int .i64 0, .int .i64 0] 112))
  have HB := Aside0.mk (below_alloc (below_alloc (Below.refl w.heap.size w) (.cells #[.slice A l.length c, .int .i64 lo, .int .i64 un] 112)) (.cells #[.slice none 0 0, .int .i64 0, .int .i64 0] 112))
  clear HC
  generalize (w.alloc (.cells #[.slice A l.length c, .int .i64 lo, .int .i64 un] 112)).alloc (.cells #[.slice none 0 0, .int .i64 0, .int .i64 0] 112) = w1 at B0 B1 HC2 HB ⊢

  refine start_ (n := 9) (S := fun w' => w'.heap[w.heap.size]? = some (.cells #[.slice A l.length c, .int .i64 lo, .int .i64 un] 112 (0, 0)) ∧ w'.heap[w.heap.size + 1]? = some (.cells #[.slice none 0 0, .int .i64 0, .int .i64 0] 112 (0, 0))) (ds := [8]) #[false, false, false, false, false, false, false, false, false] (by kernel_rfl) rfl rfl ⟨B0.out, B1.out⟩ (fun hHeld => ?_)
  have n_B0 := Aside0.mk ((show (w1.drew).heap[w.heap.size]? = some (.cells #[.slice A l.length c, .int .i64 lo, .int .i64 un] 112 (0, 0)) from B0.out))
  have n_B1 := Aside0.mk ((show (w1.drew).heap[w.heap.size + 1]? = some (.cells #[.slice none 0 0, .int .i64 0, .int .i64 0] 112 (0, 0)) from B1.out))
  have n_HC2 := Aside0.mk (Kd.C_drew HC2.out)
  have n_HB := Aside0.mk (below_drew HB.out)
  clear B0 B1 HC2 HB
  have B0 := n_B0
  have B1 := n_B1
  have HC2 := n_HC2
  have HB := n_HB
  clear n_B0 n_B1 n_HC2 n_HB
  generalize w1.drew = w2 at B0 B1 HC2 HB hHeld ⊢
  refine pure_ (i := 0) (N := some 3) (v := ?_) (a' := ?_) #[true, false, false, false, false, false, false, false, false] rfl rfl (by kernel_rfl) (fun _ _ _ h => h) (Or.inl ⟨by rfl, ?_⟩) ?_ ?_
  rotate_left
  · intro w'
    go_simp
    with_reducible rfl
  rotate_left
  · simp only [Act.put, List.setIfInBounds_toArray, List.set_cons_zero, List.set_cons_succ, i64_w, i32_w]
    rfl
  refine pure_ (i := 3) (N := some 6) (v := ?_) (a' := ?_) #[true, false, false, true, false, false, false, false, false] rfl rfl (by kernel_rfl) (fun _ _ _ h => h) (Or.inl ⟨by rfl, ?_⟩) ?_ ?_
  rotate_left
  · intro w'
    go_simp
    with_reducible rfl
  rotate_left
  · simp only [Act.put, List.setIfInBounds_toArray, List.set_cons_zero, List.set_cons_succ, i64_w, i32_w]
    rfl
  refine pure_ (i := 5) (N := some 8) (v := ?_) (a' := ?_) #[true, false, false, true, false, true, false, false, false] rfl rfl (by kernel_rfl) (fun _ _ _ h => h) (Or.inl ⟨by rfl, ?_⟩) ?_ ?_
  rotate_left
  · intro w'
    go_simp
    with_reducible rfl
  rotate_left
  · simp only [Act.put, List.setIfInBounds_toArray, List.set_cons_zero, List.set_cons_succ, i64_w, i32_w]
    rfl
  refine take_ (i := 1) (N := some 4) (v := .slice A l.length c) (a' := ?_) #[true, true, false, true, false, true, false, false, false] rfl rfl (by kernel_rfl) (fun _ _ _ h => h) (Or.inl ⟨by rfl, ?_⟩) hHeld ?_ ?_
  · intro w' hS
    have c0 := (blk_cell hS.1 0).trans rfl
    clear hHeld hS
    go_simp
  rotate_left
  · simp only [Act.put, List.setIfInBounds_toArray, List.set_cons_zero, List.set_cons_succ, i64_w, i32_w]
    rfl
  refine take_ (i := 4) (N := some 7) (v := .int .i64 lo) (a' := ?_) #[true, true, false, true, true, true, false, false, false] rfl rfl (by kernel_rfl) (fun _ _ _ h => h) (Or.inl ⟨by rfl, ?_⟩) hHeld ?_ ?_
  · intro w' hS
    have c1 := (blk_cell hS.1 1).trans rfl
    clear hHeld hS
    go_simp
  rotate_left
  · simp only [Act.put, List.setIfInBounds_toArray, List.set_cons_zero, List.set_cons_succ, i64_w, i32_w]
    rfl
  refine take_ (i := 6) (N := some 9) (v := .int .i64 un) (a' := ?_) #[true, true, false, true, true, true, true, false, false] rfl rfl (by kernel_rfl) (fun _ _ _ h => h) (Or.inl ⟨by rfl, ?_⟩) hHeld ?_ ?_
  · intro w' hS
    have c2 := (blk_cell hS.1 2).trans rfl
    clear hHeld hS
    go_simp
  rotate_left
  · simp only [Act.put, List.setIfInBounds_toArray, List.set_cons_zero, List.set_cons_succ, i64_w, i32_w]
    rfl
  refine one_ (i := 2) (N := some 5) #[true, true, true, true, true, true, true, false, false] rfl rfl (by kernel_rfl) (by decide) (fun K hK => ?_)
  refine goes_ Tryz.func177 (by kernel_rfl) rfl #[.slice A l.length c] (by rfl) rfl rfl (by (try simp only [List.map_toArray, List.map_cons, List.map_nil]); first | done | rfl) ?_
  refine (P.out _ HC2.out).mono ?_
  rintro e w9 ⟨v, rfl, hR, hb⟩
  have HR := Aside0.mk hR
  have HW := Aside0.mk HB.out.size
  obtain ⟨A1, c1, hv, _, _⟩ := Kd.R_reads hR
  clear hR
  subst hv
  refine ⟨_, rfl, ?_⟩
  have n_B0 := Aside0.mk (blk_below B0.out hb)
  have n_B1 := Aside0.mk (blk_below B1.out hb)
  have n_HC2 := Aside0.mk (Kd.C_below HC2.out hb)
  have n_HB := Aside0.mk (below_step HB.out hb)
  clear B0 B1 HC2 HB hb hHeld
  have B0 := n_B0
  have B1 := n_B1
  have HC2 := n_HC2
  have HB := n_HB
  clear n_B0 n_B1 n_HC2 n_HB
  refine hK.out _ _ ⟨B0.out, B1.out⟩ (fun hHeld => ?_)
  clear hK K
  refine norm_ (a' := ?_) ?_ ?_
  rotate_left
  · show Act.put _ (some 5) _ = _
    simp only [Act.put, List.setIfInBounds_toArray, List.set_cons_zero, List.set_cons_succ, i64_w, i32_w]
    rfl
  refine pure_ (i := 7) (N := some 10) (v := ?_) (a' := ?_) #[true, true, true, true, true, true, true, true, false] rfl rfl (by kernel_rfl) (fun _ _ _ h => h) (Or.inl ⟨by rfl, ?_⟩) ?_ ?_
  rotate_left
  · intro w'
    go_simp
    with_reducible rfl
  rotate_left
  · simp only [Act.put, List.setIfInBounds_toArray, List.set_cons_zero, List.set_cons_succ, i64_w, i32_w]
    rfl
  refine last_ (i := 8) (N := none) #[true, true, true, true, true, true, true, true, true] rfl rfl (by kernel_rfl) (by decide) (fun K hK => ?_)
  rw [if_pos (by rfl)]
  refine wp_store_row 112 (.tmp 2) (.tmp 10) rfl (w.heap.size + 1) #[.slice A1 l.length c1, .int .i64 lo, .int .i64 un] rfl rfl 112 _ B1.out (by kernel_rfl) rfl (by kernel_rfl) ?_
  have n1 := Aside0.mk (setRow_heap w9 (w.heap.size + 1) _ #[.slice A1 l.length c1, .int .i64 lo, .int .i64 un] 112 (0, 0) B1.out)
  have nR := Aside0.mk (show Kd.R kins 214 (w9.setRow (w.heap.size + 1) #[.slice A1 l.length c1, .int .i64 lo, .int .i64 un]) w2.heap.size (fun _ => True) (.slice A1 l.length c1) l from Kd.R_mono (Kd.R_step (Kd.R_bound HR.out) (fun k hk _ => setRow_other w9 (w.heap.size + 1) k _ (by rintro rfl; obtain ⟨_, _, _, q, hq, cells, hc⟩ := hk; rw [B1.out] at hc; cases hc; exact absurd hq (by decide)))) (fun _ hk => hk.1))
  have nB := Aside0.mk (below_setRow HB.out (show w.heap.size ≤ w.heap.size + 1 by omega) #[.slice A1 l.length c1, .int .i64 lo, .int .i64 un])
  clear B0 B1 HC2 HB hHeld HR
  generalize w9.setRow (w.heap.size + 1) #[.slice A1 l.length c1, .int .i64 lo, .int .i64 un] = w3 at n1 nR nB ⊢
  refine hK.out _ _ ?_
  clear hK K
  refine norm_ (a' := ?_) ?_ ?_
  rotate_left
  · show Act.put _ (none) _ = _
    simp only [Act.put, List.setIfInBounds_toArray, List.set_cons_zero, List.set_cons_succ, i64_w, i32_w]
    rfl
  refine done_ (by kernel_rfl) ?_
  have c0 := (blk_cell n1.out 0).trans rfl
  have c1' := (blk_cell n1.out 1).trans rfl
  have c2 := (blk_cell n1.out 2).trans rfl
  go_wp2_with fail
  exact bodyPost_ret (v := .agg #[.slice A1 l.length c1, .int .i64 lo, .int .i64 un]) (by simp [results, Tryz.results116, go_sem, *]) rfl ⟨_, rfl, Kd.R_lower nR.out HW.out, nB.out⟩
end Go.Proofs.YtjopodnlffaogaaGreatDoor.Tp
end
section
namespace Go.Proofs.YtjopodnlffaogaaGreatDoor.Tp
open Go.RowKit Go.Proofs.YtjopodnlffaogaaGreatDoorW.PrintWords Go.Proofs.YtjopodnlffaogaaGreatDoorW.PrintLast Go.Proofs.YtjopodnlffaogaaGreatDoorW.PrintMore
attribute [local go_sem] max2_int min2_int max_two min_two max_three min_three max_four min_four
set_option linter.unusedVariables false
set_option linter.unusedSimpArgs false
def ticketL : List Ins := [⟨20, 1, 0, 0, 0, 0, 1, 0⟩, ⟨12, 0, 0, 0, 0, 0, 1, 0⟩, ⟨21, 2, 0, 1, 0, 1, 0, -1⟩, ⟨12, 0, 0, 0, 0, 0, 2, 0⟩, ⟨13, 0, 0, 0, 0, 0, 1, 0⟩, ⟨3, 1, 1, 0, 0, 0, 1, 0⟩, ⟨17, 0, 0, 1, 0, 1, 0, 0⟩, ⟨12, 0, 0, 0, 0, 0, 4, 0⟩, ⟨13, 0, 0, 0, 0, 0, 2, 0⟩]
set_option maxRecDepth 100000 in
theorem ticketL_good : ∀ i ∈ ticketL, GoodI 9 i := by
  have h : ticketL.all (goodB 9) = true := by kernel_rfl
  exact fun i hi => goodB_spec (List.all_eq_true.1 h i hi)
def graunkeL : List Ins := [⟨11, 1, 0, 0, 0, 0, 0, 0⟩, ⟨16, 2, 1, 0, 0, 1, 0, 0⟩, ⟨5, 3, 1, 0, 0, 0, 1, 0⟩, ⟨7, 3, 3, 2, 0, 0, 0, 0⟩, ⟨18, 4, 0, 3, 0, 0, 0, 0⟩, ⟨12, 0, 0, 0, 0, 0, 1, 0⟩, ⟨4, 5, 4, 0, 0, 0, 1, 0⟩, ⟨6, 6, 4, 0, 0, 0, 1, 0⟩, ⟨21, 4, 6, 5, 0, 1, 1, -1⟩, ⟨12, 0, 0, 0, 0, 0, 2, 0⟩, ⟨13, 0, 0, 0, 0, 0, 1, 0⟩, ⟨1, 3, 0, 0, 0, 0, 1, 0⟩, ⟨8, 0, 2, 0, 0, 0, 0, 14⟩, ⟨1, 3, 0, 0, 0, 0, 0, 0⟩, ⟨17, 0, 1, 3, 0, 1, 0, 0⟩, ⟨12, 0, 0, 0, 0, 0, 4, 0⟩, ⟨13, 0, 0, 0, 0, 0, 2, 0⟩]
set_option maxRecDepth 100000 in
theorem graunkeL_good : ∀ i ∈ graunkeL, GoodI 17 i := by
  have h : graunkeL.all (goodB 17) = true := by kernel_rfl
  exact fun i hi => goodB_spec (List.all_eq_true.1 h i hi)
def clhL : List Ins := [⟨1, 1, 0, 0, 0, 0, 1, 0⟩, ⟨17, 0, 7, 1, 0, 1, 0, 0⟩, ⟨18, 6, 0, 7, 0, 0, 0, 0⟩, ⟨12, 0, 0, 0, 0, 0, 1, 0⟩, ⟨21, 1, 6, 0, 0, 1, 0, -1⟩, ⟨12, 0, 0, 0, 0, 0, 2, 0⟩, ⟨13, 0, 0, 0, 0, 0, 1, 0⟩, ⟨17, 0, 7, 0, 0, 1, 0, 0⟩, ⟨12, 0, 0, 0, 0, 0, 4, 0⟩, ⟨2, 7, 6, 0, 0, 0, 0, 0⟩, ⟨13, 0, 0, 0, 0, 0, 2, 0⟩]
set_option maxRecDepth 100000 in
theorem clhL_good : ∀ i ∈ clhL, GoodI 11 i := by
  have h : clhL.all (goodB 11) = true := by kernel_rfl
  exact fun i hi => goodB_spec (List.all_eq_true.1 h i hi)
def mcsL : List Ins := [⟨11, 1, 0, 0, 0, 0, 0, 0⟩, ⟨3, 2, 1, 0, 0, 0, 1, 0⟩, ⟨17, 0, 1, 0, 0, 1, 0, 0⟩, ⟨1, 3, 0, 0, 0, 0, 1, 0⟩, ⟨17, 0, 1, 3, 0, 2, 0, 0⟩, ⟨18, 4, 0, 2, 0, 0, 0, 0⟩, ⟨12, 0, 0, 0, 0, 0, 1, 0⟩, ⟨8, 0, 4, 0, 0, 0, 0, 11⟩, ⟨3, 4, 4, 0, 0, 0, 4294967295, 0⟩, ⟨17, 0, 4, 2, 0, 1, 0, 0⟩, ⟨21, 5, 1, 0, 0, 2, 0, -1⟩, ⟨12, 0, 0, 0, 0, 0, 2, 0⟩, ⟨13, 0, 0, 0, 0, 0, 1, 0⟩, ⟨16, 4, 1, 0, 0, 1, 0, 0⟩, ⟨9, 0, 4, 0, 0, 0, 0, 20⟩, ⟨19, 5, 0, 2, 0, 0, 0, 0⟩, ⟨8, 0, 5, 0, 0, 0, 0, 19⟩, ⟨12, 0, 0, 0, 0, 0, 4, 0⟩, ⟨13, 0, 0, 0, 0, 0, 2, 0⟩, ⟨21, 4, 1, 0, 0, 1, 1, -1⟩, ⟨3, 4, 4, 0, 0, 0, 4294967295, 0⟩, ⟨17, 0, 4, 0, 0, 2, 0, 0⟩, ⟨12, 0, 0, 0, 0, 0, 4, 0⟩, ⟨13, 0, 0, 0, 0, 0, 2, 0⟩]
set_option maxRecDepth 100000 in
theorem mcsL_good : ∀ i ∈ mcsL, GoodI 24 i := by
  have h : mcsL.all (goodB 24) = true := by kernel_rfl
  exact fun i hi => goodB_spec (List.all_eq_true.1 h i hi)
def k42L : List Ins := [⟨11, 1, 0, 0, 0, 0, 0, 0⟩, ⟨3, 2, 1, 0, 0, 0, 2, 0⟩, ⟨1, 3, 0, 0, 0, 0, 1, 0⟩, ⟨16, 4, 0, 0, 0, 0, 0, 0⟩, ⟨9, 0, 4, 0, 0, 0, 0, 10⟩, ⟨19, 5, 0, 0, 3, 0, 0, 0⟩, ⟨8, 0, 5, 0, 0, 0, 0, 3⟩, ⟨12, 0, 0, 0, 0, 0, 1, 0⟩, ⟨12, 0, 0, 0, 0, 0, 2, 0⟩, ⟨13, 0, 0, 0, 0, 0, 1, 0⟩, ⟨17, 0, 1, 0, 0, 2, 0, 0⟩, ⟨17, 0, 1, 3, 0, 3, 0, 0⟩, ⟨19, 5, 0, 4, 2, 0, 0, 0⟩, ⟨8, 0, 5, 0, 0, 0, 0, 3⟩, ⟨12, 0, 0, 0, 0, 0, 1, 0⟩, ⟨8, 0, 4, 3, 0, 0, 0, 19⟩, ⟨3, 4, 4, 0, 0, 0, 4294967294, 0⟩, ⟨17, 0, 4, 2, 0, 2, 0, 0⟩, ⟨10, 0, 0, 0, 0, 0, 0, 20⟩, ⟨17, 0, 0, 2, 0, 1, 0, 0⟩, ⟨21, 5, 1, 0, 0, 3, 0, -1⟩, ⟨12, 0, 0, 0, 0, 0, 2, 0⟩, ⟨16, 4, 1, 0, 0, 2, 0, 0⟩, ⟨9, 0, 4, 0, 0, 0, 0, 28⟩, ⟨17, 0, 0, 0, 0, 1, 0, 0⟩, ⟨19, 5, 0, 2, 3, 0, 0, 0⟩, ⟨9, 0, 5, 0, 0, 0, 0, 29⟩, ⟨21, 4, 1, 0, 0, 2, 1, -1⟩, ⟨17, 0, 0, 4, 0, 1, 0, 0⟩, ⟨13, 0, 0, 0, 0, 0, 1, 0⟩, ⟨16, 4, 0, 0, 0, 1, 0, 0⟩, ⟨9, 0, 4, 0, 0, 0, 0, 38⟩, ⟨1, 3, 0, 0, 0, 0, 1, 0⟩, ⟨19, 5, 0, 3, 0, 0, 0, 0⟩, ⟨8, 0, 5, 0, 0, 0, 0, 37⟩, ⟨12, 0, 0, 0, 0, 0, 4, 0⟩, ⟨13, 0, 0, 0, 0, 0, 2, 0⟩, ⟨21, 4, 0, 0, 0, 1, 1, -1⟩, ⟨3, 4, 4, 0, 0, 0, 4294967294, 0⟩, ⟨17, 0, 4, 0, 0, 3, 0, 0⟩, ⟨12, 0, 0, 0, 0, 0, 4, 0⟩, ⟨13, 0, 0, 0, 0, 0, 2, 0⟩]
set_option maxRecDepth 100000 in
theorem k42L_good : ∀ i ∈ k42L, GoodI 42 i := by
  have h : k42L.all (goodB 42) = true := by kernel_rfl
  exact fun i hi => goodB_spec (List.all_eq_true.1 h i hi)
def clhtryL : List Ins := [⟨22, 7, 0, 0, 0, 0, 0, 0⟩, ⟨8, 0, 7, 0, 0, 0, 0, 23⟩, ⟨17, 0, 7, 0, 0, 1, 0, 0⟩, ⟨18, 6, 0, 7, 0, 0, 0, 0⟩, ⟨12, 0, 0, 0, 0, 0, 1, 0⟩, ⟨1, 1, 0, 0, 0, 0, 1, 0⟩, ⟨21, 2, 6, 0, 0, 1, 1, 14⟩, ⟨8, 0, 2, 1, 0, 0, 0, 11⟩, ⟨23, 0, 6, 0, 0, 0, 0, 0⟩, ⟨3, 6, 2, 0, 0, 0, 4294967294, 0⟩, ⟨10, 0, 0, 0, 0, 0, 0, 5⟩, ⟨12, 0, 0, 0, 0, 0, 2, 0⟩, ⟨23, 0, 6, 0, 0, 0, 0, 0⟩, ⟨13, 0, 0, 0, 0, 0, 1, 0⟩, ⟨19, 3, 0, 7, 6, 0, 0, 0⟩, ⟨8, 0, 3, 0, 0, 0, 0, 19⟩, ⟨12, 0, 0, 0, 0, 0, 3, 0⟩, ⟨23, 0, 7, 0, 0, 0, 0, 0⟩, ⟨13, 0, 0, 0, 0, 0, 0, 0⟩, ⟨3, 3, 6, 0, 0, 0, 2, 0⟩, ⟨17, 0, 7, 3, 0, 1, 0, 0⟩, ⟨12, 0, 0, 0, 0, 0, 3, 0⟩, ⟨13, 0, 0, 0, 0, 0, 0, 0⟩, ⟨13, 0, 0, 0, 0, 0, 3, 0⟩, ⟨1, 1, 0, 0, 0, 0, 1, 0⟩, ⟨17, 0, 7, 1, 0, 1, 0, 0⟩, ⟨12, 0, 0, 0, 0, 0, 4, 0⟩, ⟨13, 0, 0, 0, 0, 0, 2, 0⟩]
set_option maxRecDepth 100000 in
theorem clhtryL_good : ∀ i ∈ clhtryL, GoodI 28 i := by
  have h : clhtryL.all (goodB 28) = true := by kernel_rfl
  exact fun i hi => goodB_spec (List.all_eq_true.1 h i hi)
def mcstryL : List Ins := [⟨22, 7, 0, 0, 0, 0, 0, 0⟩, ⟨8, 0, 7, 0, 0, 0, 0, 17⟩, ⟨17, 0, 7, 0, 0, 1, 0, 0⟩, ⟨17, 0, 7, 0, 0, 2, 0, 0⟩, ⟨18, 6, 0, 7, 0, 0, 0, 0⟩, ⟨12, 0, 0, 0, 0, 0, 1, 0⟩, ⟨8, 0, 6, 0, 0, 0, 0, 10⟩, ⟨17, 0, 6, 7, 0, 1, 0, 0⟩, ⟨1, 1, 0, 0, 0, 0, 1, 0⟩, ⟨21, 2, 7, 1, 0, 2, 0, 12⟩, ⟨12, 0, 0, 0, 0, 0, 2, 0⟩, ⟨13, 0, 0, 0, 0, 0, 1, 0⟩, ⟨1, 3, 0, 0, 0, 0, 2, 0⟩, ⟨19, 4, 7, 0, 3, 2, 0, 0⟩, ⟨8, 0, 4, 0, 0, 0, 0, 10⟩, ⟨12, 0, 0, 0, 0, 0, 3, 0⟩, ⟨13, 0, 0, 0, 0, 0, 0, 0⟩, ⟨13, 0, 0, 0, 0, 0, 3, 0⟩, ⟨16, 6, 7, 0, 0, 1, 0, 0⟩, ⟨9, 0, 6, 0, 0, 0, 0, 26⟩, ⟨19, 4, 0, 7, 0, 0, 0, 0⟩, ⟨8, 0, 4, 0, 0, 0, 0, 25⟩, ⟨12, 0, 0, 0, 0, 0, 4, 0⟩, ⟨23, 0, 7, 0, 0, 0, 0, 0⟩, ⟨13, 0, 0, 0, 0, 0, 2, 0⟩, ⟨21, 6, 7, 0, 0, 1, 1, -1⟩, ⟨1, 1, 0, 0, 0, 0, 1, 0⟩, ⟨19, 4, 6, 0, 1, 2, 0, 0⟩, ⟨8, 0, 4, 0, 0, 0, 0, 32⟩, ⟨12, 0, 0, 0, 0, 0, 4, 0⟩, ⟨23, 0, 7, 0, 0, 0, 0, 0⟩, ⟨13, 0, 0, 0, 0, 0, 2, 0⟩, ⟨23, 0, 7, 0, 0, 0, 0, 0⟩, ⟨2, 7, 6, 0, 0, 0, 0, 0⟩, ⟨10, 0, 0, 0, 0, 0, 0, 18⟩]
set_option maxRecDepth 100000 in
theorem mcstryL_good : ∀ i ∈ mcstryL, GoodI 35 i := by
  have h : mcstryL.all (goodB 35) = true := by kernel_rfl
  exact fun i hi => goodB_spec (List.all_eq_true.1 h i hi)
def andersonL (j : Nat) : List Ins := [⟨20, 1, 0, 0, 0, 0, 1, 0⟩, ⟨12, 0, 0, 0, 0, 0, 1, 0⟩, ⟨4, 2, 1, 0, 0, 0, ((2 ^ j - 1 : Nat) : Int), 0⟩, ⟨1, 3, 0, 0, 0, 0, 1, 0⟩, ⟨21, 4, 2, 3, 0, 1, 0, -1⟩, ⟨12, 0, 0, 0, 0, 0, 2, 0⟩, ⟨17, 0, 2, 0, 0, 1, 0, 0⟩, ⟨13, 0, 0, 0, 0, 0, 1, 0⟩, ⟨3, 2, 1, 0, 0, 0, 1, 0⟩, ⟨4, 2, 2, 0, 0, 0, ((2 ^ j - 1 : Nat) : Int), 0⟩, ⟨1, 3, 0, 0, 0, 0, 1, 0⟩, ⟨17, 0, 2, 3, 0, 1, 0, 0⟩, ⟨12, 0, 0, 0, 0, 0, 4, 0⟩, ⟨13, 0, 0, 0, 0, 0, 2, 0⟩]
set_option maxRecDepth 100000 in
theorem andersonL_good (j : Nat) (hj : j ≤ 6) : ∀ i ∈ andersonL j, GoodI 14 i := by
  have h : (andersonL j).all (goodB 14) = true := by
    rcases (by omega : j = 0 ∨ j = 1 ∨ j = 2 ∨ j = 3 ∨ j = 4 ∨ j = 5 ∨ j = 6) with rfl | rfl | rfl | rfl | rfl | rfl | rfl <;> kernel_rfl
  exact fun i hi => goodB_spec (List.all_eq_true.1 h i hi)
end Go.Proofs.YtjopodnlffaogaaGreatDoor.Tp
end
section
namespace Go.Proofs.YtjopodnlffaogaaGreatDoor.Tp
open Go.RowKit Go.Proofs.YtjopodnlffaogaaGreatDoorW.PrintWords Go.Proofs.YtjopodnlffaogaaGreatDoorW.PrintLast Go.Proofs.YtjopodnlffaogaaGreatDoorW.PrintMore
attribute [local go_sem] max2_int min2_int max_two min_two max_three min_three max_four min_four
set_option linter.unusedVariables false
set_option linter.unusedSimpArgs false
structure Cfg where
  kind : Int
  threads : Int
  slots : Int
  each : Int
  spin : Int
  start : Int
def Cfg.cells (c : Cfg) : Array Value := #[.int .i64 c.kind, .int .i64 c.threads, .int .i64 c.slots, .int .i64 c.each, .int .i64 c.spin, .int .u32 c.start]
structure Spc where
  l : List Ins
  lo : Int
  un : Int
  szs : List Int
  xs : List Int
  m : Nat
  r7 : List Int
def Spc.Is (p : Spc) (B : Nat) (w : World) (v : Value) : Prop := SpecIs B w v p.l p.lo p.un p.szs p.xs p.m p.r7
structure AsmAll : Prop where
  ticket : AsmOk ticketText ticketL 0 5
  graunke : AsmOk graunkeText graunkeL 0 11
  clh : AsmOk clhText clhL 0 7
  mcs : AsmOk mcsText mcsL 0 13
  k42 : AsmOk k42Text k42L 0 30
  clhtry : AsmOk clhtryText clhtryL 0 24
  mcstry : AsmOk mcstryText mcstryL 0 18
  anderson : ∀ j : Nat, j ≤ 6 → ∃ txt, AsmOk txt (andersonL j) 0 8 ∧ TextOk 161 #[.int .i64 ((2 ^ j : Nat) : Int)] txt
inductive SpecOf : Cfg → Spc → Prop
  | ticket (n s : Nat) (sl ea sp : Int) (n1 : 1 ≤ n) (n64 : n ≤ 64) : SpecOf ⟨1, n, sl, ea, sp, s⟩ ⟨ticketL, 0, 5, [1, 1], [(s : Int), (s : Int)], 0, List.replicate n 0⟩
  | anderson (n j s : Nat) (ea sp : Int) (n1 : 1 ≤ n) (n64 : n ≤ 64) (hj : j ≤ 6) (hnt : n ≤ 2 ^ j) (hs : s < 4294967296) : SpecOf ⟨2, n, ((2 ^ j : Nat) : Int), ea, sp, s⟩ ⟨andersonL j, 0, 8, [1, ((2 ^ j : Nat) : Int)], ((List.replicate (2 ^ j + 1) 0).set 0 (s : Int)).set (1 + s % 2 ^ j) 1, 0, List.replicate n 0⟩
  | graunke (n : Nat) (sl ea sp s : Int) (n1 : 1 ≤ n) (n64 : n ≤ 64) : SpecOf ⟨3, n, sl, ea, sp, s⟩ ⟨graunkeL, 0, 11, [1, ((n + 1 : Nat) : Int)], ((List.replicate (n + 2) 0).set 0 (2 * (n : Int))).set (n + 1) 1, 0, List.replicate n 0⟩
  | clh (n : Nat) (sl ea sp s : Int) (n1 : 1 ≤ n) (n64 : n ≤ 64) : SpecOf ⟨4, n, sl, ea, sp, s⟩ ⟨clhL, 0, 7, [1, ((n + 1 : Nat) : Int)], List.replicate (n + 2) 0, 0, upTo n⟩
  | mcs (n : Nat) (sl ea sp s : Int) (n1 : 1 ≤ n) (n64 : n ≤ 64) : SpecOf ⟨5, n, sl, ea, sp, s⟩ ⟨mcsL, 0, 13, [1, n, n], List.replicate (1 + 2 * n) 0, 0, List.replicate n 0⟩
  | k42 (n : Nat) (sl ea sp s : Int) (n1 : 1 ≤ n) (n64 : n ≤ 64) : SpecOf ⟨6, n, sl, ea, sp, s⟩ ⟨k42L, 0, 30, [1, 1, n, n], List.replicate (2 + 2 * n) 0, 0, List.replicate n 0⟩
  | clhtry (n ea : Nat) (sl sp s : Int) (n1 : 1 ≤ n) (n64 : n ≤ 64) (e2 : 2 ≤ ea) (e8 : ea ≤ 8) : SpecOf ⟨7, n, sl, ea, sp, s⟩ ⟨clhtryL, 0, 24, [1, ((n * ea + 1 : Nat) : Int)], (List.replicate (n * ea + 2) 0).set 1 1, ea, List.replicate n 0⟩
  | mcstry (n ea : Nat) (sl sp s : Int) (n1 : 1 ≤ n) (n64 : n ≤ 64) (e1 : 1 ≤ ea) (e8 : ea ≤ 8) : SpecOf ⟨8, n, sl, ea, sp, s⟩ ⟨mcstryL, 0, 18, [1, ((n * ea + 1 : Nat) : Int), ((n * ea + 1 : Nat) : Int)], List.replicate (2 * n * ea + 3) 0, ea, List.replicate n 0⟩
end Go.Proofs.YtjopodnlffaogaaGreatDoor.Tp
end
section
namespace Go.Proofs.YtjopodnlffaogaaGreatDoor.Tp
open Go.RowKit Go.Proofs.YtjopodnlffaogaaGreatDoorW.PrintWords Go.Proofs.YtjopodnlffaogaaGreatDoorW.PrintLast Go.Proofs.YtjopodnlffaogaaGreatDoorW.PrintMore
attribute [local go_sem] max2_int min2_int max_two min_two max_three min_three max_four min_four
set_option linter.unusedVariables false
set_option linter.unusedSimpArgs false
theorem below_tr {B : Nat} {w w1 w2 : World} (h : Below B w w1) (k : Below B w1 w2) : Below B w w2 := ⟨k.os.trans h.os, k.tape.trans h.tape, k.output.trans h.output, Nat.le_trans h.size k.size, fun i hi => (k.block i hi).trans (h.block i hi)⟩
set_option maxHeartbeats 4000000 in
set_option maxRecDepth 100000 in
theorem execNew_calls (AL AS AI AR : Option Addr) (cL cS cI cR : Nat) (l : List Ins) (lo un : Int) (szs xs r7 : List Int) (m : Nat) (w : World)
    (hL : Kd.C kins w AL l.length l) (hcL : l.length ≤ cL) (hnL : AL = none → l = []) (hg : ∀ i ∈ l, GoodI l.length i) (l1 : 1 ≤ l.length) (l64 : l.length ≤ 64) (lo0 : 0 ≤ lo) (lo1 : lo < l.length) (un0 : 0 ≤ un) (un1 : un < l.length)
    (hS : Kd.C (Kd.int .i64) w AS szs.length szs) (hcS : szs.length ≤ cS) (hnS : AS = none → szs = []) (hI : Kd.C (Kd.int .u32) w AI xs.length xs) (h8 : szs.length ≤ 8) (hr : ∀ s ∈ szs, 0 ≤ s ∧ s ≤ 4096) (hsum : psum szs szs.length = xs.length) (hx : xs.length ≤ 8192)
    (hm : m ≤ 8) (hR : Kd.C (Kd.int .u32) w AR r7.length r7) (n1 : 1 ≤ r7.length) (n64 : r7.length ≤ 64) :
    Calls Tryz.prog 51 #[.agg #[.slice AL l.length cL, .int .i64 lo, .int .i64 un, .slice AS szs.length cS, .slice AI xs.length cI, .int .i64 (m : Int), .slice AR r7.length cR], .int .i64 (r7.length : Int)] w fun e w' =>
    ∃ be vl bm bc gc vs vb bp bq vr rs gk, e = .returned (.tuple #[.pointer (some ⟨be, 0, none⟩), .int .i64 0]) ∧ Below w.heap.size w w' ∧ ExecAt w' w.heap.size be vl l lo un bm bc gc vs vb szs xs bp bq m vr rs gk (r7.map cz) ∧ w'.heap[bq]? = some (.map #[] 0) ∧ rs.length = r7.length ∧ (∀ r ∈ rs, r.first = 0 ∧ r.n = m) := by
  have HL := Aside0.mk hL
  have HS := Aside0.mk hS
  have HI := Aside0.mk hI
  have HR := Aside0.mk hR
  have HRW := Aside0.mk hR
  have KP := Aside0.mk (fun W => poolNew_calls r7.length m W n1 n64 hm)
  have KM := Aside0.mk (fun (W : World) (h1 : Kd.C (Kd.int .i64) W AS szs.length szs) (h2 : Kd.C (Kd.int .u32) W AI xs.length xs) => memNew_calls AS AI cS cI szs xs W h1 hcS hnS h2 h8 hr hsum hx)
  have KR := Aside0.mk (fun (W : World) (h : Kd.C kins W AL l.length l) => aright_calls AL cL l lo un W h hg l1 l64 lo0 lo1 un0 un1)
  have KC := Aside0.mk (fun (W : World) (h : Kd.C kins W AL l.length l) => acopy_calls AL cL l lo un W h hcL hnL l64)
  have N64 := Aside0.mk n64
  have MK := Aside0.mk (fun W : World => (show (Instr.makeSlice 147 (.int .i64 (r7.length : Int)) (.int .i64 (r7.length : Int))).run Tryz.prog W = .ok (.slice (some ⟨W.heap.size, 0, none⟩) r7.length r7.length) (W.alloc (.cells (coresRow ((over r7 0).map cz)) 192)) from by rw [← cores_zero, ← made_cores]; exact run_makeK (P := Tryz.prog) 147 192 (Value.agg #[.int .u32 0, .int .u32 0, .int .u32 0, .int .u32 0, .int .u32 0, .int .u32 0, .int .u32 0, .int .u32 0, .int .i64 0]) 9 40 (by kernel_rfl) (by kernel_rfl) (by decide) r7.length (by omega) W))
  clear hL hS hI hR hg hr hsum hcL hnL hcS hnS h8 hx hm l1 l64 lo0 lo1 un0 un1 n1
  go_enter Tryz.func51, Tryz.ntmps51

  go_wp2_with fail
  have B0 := Aside0.mk (blk_new w (.cells #[.slice AL l.length cL, .int .i64 lo, .int .i64 un, .slice AS szs.length cS, .slice AI xs.length cI, .int .i64 (m : Int), .slice AR r7.length cR] 114))
  have HL1 := Aside0.mk (Kd.C_alloc HL.out (.cells #[.slice AL l.length cL, .int .i64 lo, .int .i64 un, .slice AS szs.length cS, .slice AI xs.length cI, .int .i64 (m : Int), .slice AR r7.length cR] 114))
  have HS1 := Aside0.mk (Kd.C_alloc HS.out (.cells #[.slice AL l.length cL, .int .i64 lo, .int .i64 un, .slice AS szs.length cS, .slice AI xs.length cI, .int .i64 (m : Int), .slice AR r7.length cR] 114))
  have HI1 := Aside0.mk (Kd.C_alloc HI.out (.cells #[.slice AL l.length cL, .int .i64 lo, .int .i64 un, .slice AS szs.length cS, .slice AI xs.length cI, .int .i64 (m : Int), .slice AR r7.length cR] 114))
  have HR1 := Aside0.mk (Kd.C_alloc HR.out (.cells #[.slice AL l.length cL, .int .i64 lo, .int .i64 un, .slice AS szs.length cS, .slice AI xs.length cI, .int .i64 (m : Int), .slice AR r7.length cR] 114))
  have HB1 := Aside0.mk (below_alloc (Below.refl w.heap.size w) (.cells #[.slice AL l.length cL, .int .i64 lo, .int .i64 un, .slice AS szs.length cS, .slice AI xs.length cI, .int .i64 (m : Int), .slice AR r7.length cR] 114))
  clear HL HS HI HR
  generalize w.alloc (.cells #[.slice AL l.length cL, .int .i64 lo, .int .i64 un, .slice AS szs.length cS, .slice AI xs.length cI, .int .i64 (m : Int), .slice AR r7.length cR] 114) = w1 at B0 HL1 HS1 HI1 HR1 HB1 ⊢
  refine (KP.out w1).mono ?_
  rintro e w2 ⟨bp, bq, vr, rs, rfl, hb, hp, hq, p0, p1, p2, p3⟩
  have HP2 := Aside0.mk (hp.lower HB1.out.size)
  have HQ2 := Aside0.mk hq
  have HQ := Aside0.mk (⟨p2, p3⟩ : rs.length = r7.length ∧ (∀ r ∈ rs, r.first = 0 ∧ r.n = m))
  have B2 := Aside0.mk (blk_below B0.out hb)
  have HL2 := Aside0.mk (Kd.C_below HL1.out hb)
  have HS2 := Aside0.mk (Kd.C_below HS1.out hb)
  have HI2 := Aside0.mk (Kd.C_below HI1.out hb)
  have HR2 := Aside0.mk (Kd.C_below HR1.out hb)
  have HB2 := Aside0.mk (below_step HB1.out hb)
  clear hb hp hq p0 p1 p2 p3 B0 HL1 HS1 HI1 HR1 HB1 KP
  have c3 := (blk_cell B2.out 3).trans rfl
  have c4 := (blk_cell B2.out 4).trans rfl
  go_wp2_with fail
  refine (KM.out w2 HS2.out HI2.out).mono ?_
  rintro e w3 ⟨bm, bc, gc, vs, vb, rfl, hb, hmem, p1, p2, p3⟩
  have HM3 := Aside0.mk (hmem.lower HB2.out.size)
  have HP3 := Aside0.mk (HP2.out.below hb)
  have HQ3 := Aside0.mk (blk_below HQ2.out hb)
  have B3 := Aside0.mk (blk_below B2.out hb)
  have HL3 := Aside0.mk (Kd.C_below HL2.out hb)
  have HR3 := Aside0.mk (Kd.C_below HR2.out hb)
  have HB3 := Aside0.mk (below_step HB2.out hb)
  clear hb hmem p1 p2 p3 B2 HL2 HS2 HI2 HR2 HB2 HP2 HQ2 KM c3 c4
  have c0 := (blk_cell B3.out 0).trans rfl
  have c1 := (blk_cell B3.out 1).trans rfl
  have c2 := (blk_cell B3.out 2).trans rfl
  have c6 := (blk_cell B3.out 6).trans rfl
  have e0 : (r7.length != r7.length) = false := by simp
  have e1 : ((r7.length : Int) != (r7.length : Int)) = false := by simp
  go_wp2_with (go_at_call 115; refine (KR.out w3 HL3.out).mono ?_; rintro e w4 ⟨rfl, hb⟩; have HM4 := Aside0.mk (HM3.out.below hb); have HP4 := Aside0.mk (HP3.out.below hb); have HQ4 := Aside0.mk (blk_below HQ3.out hb); have B4 := Aside0.mk (blk_below B3.out hb); have HL4 := Aside0.mk (Kd.C_below HL3.out hb); have HR4 := Aside0.mk (Kd.C_below HR3.out hb); have HB4 := Aside0.mk (below_step HB3.out hb); clear hb B3 HL3 HR3 HB3 HP3 HQ3 HM3 KR c0 c1 c2 c6; have c6 := (blk_cell B4.out 6).trans rfl)

  clear c6 e0 e1
  refine start_ (n := 10) (S := fun w' => w'.heap[w.heap.size]? = some (.cells #[.slice AL l.length cL, .int .i64 lo, .int .i64 un, .slice AS szs.length cS, .slice AI xs.length cI, .int .i64 (m : Int), .slice AR r7.length cR] 114 (0, 0))) (ds := []) #[false, false, false, false, false, false, false, false, false, false] (by kernel_rfl) rfl rfl B4.out (fun hHeld => ?_)
  have n_B4 := Aside0.mk ((show (w4.drew).heap[w.heap.size]? = some (.cells #[.slice AL l.length cL, .int .i64 lo, .int .i64 un, .slice AS szs.length cS, .slice AI xs.length cI, .int .i64 (m : Int), .slice AR r7.length cR] 114 (0, 0)) from B4.out))
  have n_HM4 := Aside0.mk (HM4.out.below (below_drew (Below.refl _ _)))
  have n_HP4 := Aside0.mk (HP4.out.below (below_drew (Below.refl _ _)))
  have n_HQ4 := Aside0.mk ((show (w4.drew).heap[bq]? = some (.map #[] 0) from HQ4.out))
  have n_HL4 := Aside0.mk (Kd.C_drew HL4.out)
  have n_HR4 := Aside0.mk (Kd.C_drew HR4.out)
  have n_HB4 := Aside0.mk (below_drew HB4.out)
  clear B4 HM4 HP4 HQ4 HL4 HR4 HB4
  have B4 := n_B4
  have HM4 := n_HM4
  have HP4 := n_HP4
  have HQ4 := n_HQ4
  have HL4 := n_HL4
  have HR4 := n_HR4
  have HB4 := n_HB4
  clear n_B4 n_HM4 n_HP4 n_HQ4 n_HL4 n_HR4 n_HB4
  generalize w4.drew = w5 at B4 HM4 HP4 HQ4 HL4 HR4 HB4 hHeld ⊢
  refine pure_ (i := 0) (N := some 47) (v := ?_) (a' := ?_) #[true, false, false, false, false, false, false, false, false, false] rfl rfl (by kernel_rfl) (fun _ _ _ h => h) (Or.inl ⟨by rfl, ?_⟩) ?_ ?_
  rotate_left
  · intro w'
    go_simp
    with_reducible rfl
  rotate_left
  · simp only [Act.put, List.setIfInBounds_toArray, List.set_cons_zero, List.set_cons_succ, i64_w, i32_w]
    rfl
  refine pure_ (i := 3) (N := some 50) (v := ?_) (a' := ?_) #[true, false, false, true, false, false, false, false, false, false] rfl rfl (by kernel_rfl) (fun _ _ _ h => h) (Or.inl ⟨by rfl, ?_⟩) ?_ ?_
  rotate_left
  · intro w'
    go_simp
    with_reducible rfl
  rotate_left
  · simp only [Act.put, List.setIfInBounds_toArray, List.set_cons_zero, List.set_cons_succ, i64_w, i32_w]
    rfl
  refine pure_ (i := 4) (N := some 51) (v := ?_) (a' := ?_) #[true, false, false, true, true, false, false, false, false, false] rfl rfl (by kernel_rfl) (fun _ _ _ h => h) (Or.inl ⟨by rfl, ?_⟩) ?_ ?_
  rotate_left
  · intro w'
    go_simp
    with_reducible rfl
  rotate_left
  · simp only [Act.put, List.setIfInBounds_toArray, List.set_cons_zero, List.set_cons_succ, i64_w, i32_w]
    rfl
  refine pure_ (i := 5) (N := some 52) (v := ?_) (a' := ?_) #[true, false, false, true, true, true, false, false, false, false] rfl rfl (by kernel_rfl) (fun _ _ _ h => h) (Or.inl ⟨by rfl, ?_⟩) ?_ ?_
  rotate_left
  · intro w'
    go_simp
    with_reducible rfl
  rotate_left
  · simp only [Act.put, List.setIfInBounds_toArray, List.set_cons_zero, List.set_cons_succ, i64_w, i32_w]
    rfl
  refine take_ (i := 1) (N := some 48) (v := .agg #[.slice AL l.length cL, .int .i64 lo, .int .i64 un]) (a' := ?_) #[true, true, false, true, true, true, false, false, false, false] rfl rfl (by kernel_rfl) (fun _ _ _ h => h) (Or.inl ⟨by rfl, ?_⟩) hHeld ?_ ?_
  · intro w' hS
    have c0 := (blk_cell hS 0).trans rfl
    have c1 := (blk_cell hS 1).trans rfl
    have c2 := (blk_cell hS 2).trans rfl
    clear hHeld hS
    go_simp
  rotate_left
  · simp only [Act.put, List.setIfInBounds_toArray, List.set_cons_zero, List.set_cons_succ, i64_w, i32_w]
    rfl
  refine join_ (σ := Option Addr × Nat × Nat) 3 #[true, true, true, true, true, true, true, false, false, false] (fun z => [(49, .agg #[.slice z.1 l.length z.2.1, .int .i64 lo, .int .i64 un]), (53, .slice (some ⟨z.2.2, 0, none⟩) r7.length r7.length)]) (fun z w' => w'.heap[w.heap.size]? = some (.cells #[.slice AL l.length cL, .int .i64 lo, .int .i64 un, .slice AS szs.length cS, .slice AI xs.length cI, .int .i64 (m : Int), .slice AR r7.length cR] 114 (0, 0)) ∧ Kd.R kins 214 w' w.heap.size (fun _ => True) (.slice z.1 l.length z.2.1) l ∧ w'.heap[z.2.2]? = some (.cells (coresRow ((over r7 0).map cz)) 192 (0, 0)) ∧ w.heap.size ≤ z.2.2 ∧ MemAt w' w.heap.size bm bc gc vs vb szs xs ∧ PoolAt w' w.heap.size bp bq m vr rs ∧ w'.heap[bq]? = some (.map #[] 0) ∧ Kd.C (Kd.int .u32) w' AR r7.length r7 ∧ Below w.heap.size w w') ?cont ?orders
  case orders =>
    intro hcont
    refine two_ (i := 2) (j := 6) (Ni := some 49) (Nj := some 53) #[true, true, true, true, true, true, false, false, false, false] #[true, true, false, true, true, true, true, false, false, false] rfl rfl rfl rfl (by kernel_rfl) (by decide) (by decide) (fun K hK => ?_) (fun K hK => ?_)
    ·
      refine goes_ Tryz.func116 (by kernel_rfl) rfl #[.agg #[.slice AL l.length cL, .int .i64 lo, .int .i64 un]] (by rfl) rfl rfl (by (try simp only [List.map_toArray, List.map_cons, List.map_nil]); first | done | rfl) ?_
      refine (KC.out _ HL4.out).mono ?_
      rintro e w9 ⟨v, rfl, hR, hb⟩
      have HV := Aside0.mk (Kd.R_lower hR HB4.out.size)
      clear hR
      obtain ⟨A1, c1, hv, _, _⟩ := Kd.R_reads HV.out
      subst hv
      refine ⟨_, rfl, ?_⟩
      have n_B4 := Aside0.mk (blk_below B4.out hb)
      have n_HM4 := Aside0.mk (HM4.out.below hb)
      have n_HP4 := Aside0.mk (HP4.out.below hb)
      have n_HQ4 := Aside0.mk (blk_below HQ4.out hb)
      have n_HL4 := Aside0.mk (Kd.C_below HL4.out hb)
      have n_HR4 := Aside0.mk (Kd.C_below HR4.out hb)
      have n_HB4 := Aside0.mk (below_step HB4.out hb)
      clear B4 HM4 HP4 HQ4 HL4 HR4 HB4 hb hHeld
      have B4 := n_B4
      have HM4 := n_HM4
      have HP4 := n_HP4
      have HQ4 := n_HQ4
      have HL4 := n_HL4
      have HR4 := n_HR4
      have HB4 := n_HB4
      clear n_B4 n_HM4 n_HP4 n_HQ4 n_HL4 n_HR4 n_HB4
      refine hK.out _ _ B4.out (fun hHeld => ?_)
      clear hK K
      refine norm_ (a' := ?_) ?_ ?_
      rotate_left
      · show Act.put _ (some 49) _ = _
        simp only [Act.put, List.setIfInBounds_toArray, List.set_cons_zero, List.set_cons_succ, i64_w, i32_w]
        rfl
      refine one_ (i := 6) (N := some 53) #[true, true, true, true, true, true, true, false, false, false] rfl rfl (by kernel_rfl) (by decide) (fun K hK => ?_)
      refine value_ (v := .slice (some ⟨w9.heap.size, 0, none⟩) r7.length r7.length) (w1 := w9.alloc (.cells (coresRow ((over r7 0).map cz)) 192)) (by rfl) rfl (by have hmk := MK.out w9; go_simp) ?_
      have BK := Aside0.mk (blk_new w9 (.cells (coresRow ((over r7 0).map cz)) 192))
      have GK := Aside0.mk HB4.out.size
      have n_B4 := Aside0.mk (blk_alloc B4.out (.cells (coresRow ((over r7 0).map cz)) 192))
      have n_HM4 := Aside0.mk (HM4.out.below (below_alloc (Below.refl _ _) (.cells (coresRow ((over r7 0).map cz)) 192)))
      have n_HP4 := Aside0.mk (HP4.out.below (below_alloc (Below.refl _ _) (.cells (coresRow ((over r7 0).map cz)) 192)))
      have n_HQ4 := Aside0.mk (blk_alloc HQ4.out (.cells (coresRow ((over r7 0).map cz)) 192))
      have n_HL4 := Aside0.mk (Kd.C_alloc HL4.out (.cells (coresRow ((over r7 0).map cz)) 192))
      have n_HR4 := Aside0.mk (Kd.C_alloc HR4.out (.cells (coresRow ((over r7 0).map cz)) 192))
      have n_HB4 := Aside0.mk (below_alloc HB4.out (.cells (coresRow ((over r7 0).map cz)) 192))
      have n_HV := Aside0.mk (Kd.R_alloc HV.out (.cells (coresRow ((over r7 0).map cz)) 192))
      clear B4 HM4 HP4 HQ4 HL4 HR4 HB4 HV hHeld
      have B4 := n_B4
      have HM4 := n_HM4
      have HP4 := n_HP4
      have HQ4 := n_HQ4
      have HL4 := n_HL4
      have HR4 := n_HR4
      have HB4 := n_HB4
      have HV := n_HV
      clear n_B4 n_HM4 n_HP4 n_HQ4 n_HL4 n_HR4 n_HB4 n_HV
      refine hK.out _ _ B4.out (fun hHeld => ?_)
      clear hK K
      refine norm_ (a' := ?_) ?_ ?_
      rotate_left
      · show Act.put _ (some 53) _ = _
        simp only [Act.put, List.setIfInBounds_toArray, List.set_cons_zero, List.set_cons_succ, i64_w, i32_w]
        rfl
      generalize w9.alloc (.cells (coresRow ((over r7 0).map cz)) 192) = wa at B4 HM4 HP4 HQ4 HL4 HR4 HB4 HV BK hHeld ⊢
      generalize w9.heap.size = gk at BK GK ⊢
      refine norm_ (a' := _) ?_ (hcont (A1, c1, gk) _ ⟨B4.out, HV.out, BK.out, GK.out, HM4.out, HP4.out, HQ4.out, HR4.out, HB4.out⟩)
      simp only [putAll, Act.put, List.setIfInBounds_toArray, List.set_cons_zero, List.set_cons_succ]
      try rfl
    ·
      refine value_ (v := .slice (some ⟨w5.heap.size, 0, none⟩) r7.length r7.length) (w1 := w5.alloc (.cells (coresRow ((over r7 0).map cz)) 192)) (by rfl) rfl (by have hmk := MK.out w5; go_simp) ?_
      have BK := Aside0.mk (blk_new w5 (.cells (coresRow ((over r7 0).map cz)) 192))
      have GK := Aside0.mk HB4.out.size
      have n_B4 := Aside0.mk (blk_alloc B4.out (.cells (coresRow ((over r7 0).map cz)) 192))
      have n_HM4 := Aside0.mk (HM4.out.below (below_alloc (Below.refl _ _) (.cells (coresRow ((over r7 0).map cz)) 192)))
      have n_HP4 := Aside0.mk (HP4.out.below (below_alloc (Below.refl _ _) (.cells (coresRow ((over r7 0).map cz)) 192)))
      have n_HQ4 := Aside0.mk (blk_alloc HQ4.out (.cells (coresRow ((over r7 0).map cz)) 192))
      have n_HL4 := Aside0.mk (Kd.C_alloc HL4.out (.cells (coresRow ((over r7 0).map cz)) 192))
      have n_HR4 := Aside0.mk (Kd.C_alloc HR4.out (.cells (coresRow ((over r7 0).map cz)) 192))
      have n_HB4 := Aside0.mk (below_alloc HB4.out (.cells (coresRow ((over r7 0).map cz)) 192))
      clear B4 HM4 HP4 HQ4 HL4 HR4 HB4 hHeld
      have B4 := n_B4
      have HM4 := n_HM4
      have HP4 := n_HP4
      have HQ4 := n_HQ4
      have HL4 := n_HL4
      have HR4 := n_HR4
      have HB4 := n_HB4
      clear n_B4 n_HM4 n_HP4 n_HQ4 n_HL4 n_HR4 n_HB4
      refine hK.out _ _ B4.out (fun hHeld => ?_)
      clear hK K
      refine norm_ (a' := ?_) ?_ ?_
      rotate_left
      · show Act.put _ (some 53) _ = _
        simp only [Act.put, List.setIfInBounds_toArray, List.set_cons_zero, List.set_cons_succ, i64_w, i32_w]
        rfl
      generalize w5.alloc (.cells (coresRow ((over r7 0).map cz)) 192) = wa at B4 HM4 HP4 HQ4 HL4 HR4 HB4 BK hHeld ⊢
      generalize w5.heap.size = gk at BK GK ⊢
      refine one_ (i := 2) (N := some 49) #[true, true, true, true, true, true, true, false, false, false] rfl rfl (by kernel_rfl) (by decide) (fun K hK => ?_)
      refine goes_ Tryz.func116 (by kernel_rfl) rfl #[.agg #[.slice AL l.length cL, .int .i64 lo, .int .i64 un]] (by rfl) rfl rfl (by (try simp only [List.map_toArray, List.map_cons, List.map_nil]); first | done | rfl) ?_
      refine (KC.out _ HL4.out).mono ?_
      rintro e w9 ⟨v, rfl, hR, hb⟩
      have HV := Aside0.mk (Kd.R_lower hR HB4.out.size)
      clear hR
      obtain ⟨A1, c1, hv, _, _⟩ := Kd.R_reads HV.out
      subst hv
      refine ⟨_, rfl, ?_⟩
      have n_B4 := Aside0.mk (blk_below B4.out hb)
      have n_HM4 := Aside0.mk (HM4.out.below hb)
      have n_HP4 := Aside0.mk (HP4.out.below hb)
      have n_HQ4 := Aside0.mk (blk_below HQ4.out hb)
      have n_HL4 := Aside0.mk (Kd.C_below HL4.out hb)
      have n_HR4 := Aside0.mk (Kd.C_below HR4.out hb)
      have n_HB4 := Aside0.mk (below_step HB4.out hb)
      have n_BK := Aside0.mk (blk_below BK.out hb)
      clear B4 HM4 HP4 HQ4 HL4 HR4 HB4 BK hb hHeld
      have B4 := n_B4
      have HM4 := n_HM4
      have HP4 := n_HP4
      have HQ4 := n_HQ4
      have HL4 := n_HL4
      have HR4 := n_HR4
      have HB4 := n_HB4
      have BK := n_BK
      clear n_B4 n_HM4 n_HP4 n_HQ4 n_HL4 n_HR4 n_HB4 n_BK
      refine hK.out _ _ B4.out (fun hHeld => ?_)
      clear hK K
      refine norm_ (a' := ?_) ?_ ?_
      rotate_left
      · show Act.put _ (some 49) _ = _
        simp only [Act.put, List.setIfInBounds_toArray, List.set_cons_zero, List.set_cons_succ, i64_w, i32_w]
        rfl
      refine norm_ (a' := _) ?_ (hcont (A1, c1, gk) _ ⟨B4.out, HV.out, BK.out, GK.out, HM4.out, HP4.out, HQ4.out, HR4.out, HB4.out⟩)
      simp only [putAll, Act.put, List.setIfInBounds_toArray, List.set_cons_zero, List.set_cons_succ]
      try rfl
  case cont =>
    clear B4 HM4 HP4 HQ4 HL4 HR4 HB4 KC MK hHeld
    rintro ⟨A1, c1, gk⟩ wf ⟨h0, h1, h2, h3, h4, h5, h6, h7, h8⟩
    dsimp only at h0 h1 h2 h3 h4 h5 h6 h7 h8 ⊢
    have B5 := Aside0.mk h0
    have HV := Aside0.mk h1
    have BK := Aside0.mk h2
    have GK := Aside0.mk h3
    have HM5 := Aside0.mk h4
    have HP5 := Aside0.mk h5
    have HQ5 := Aside0.mk h6
    have HR5 := Aside0.mk h7
    have HB5 := Aside0.mk h8
    clear h0 h1 h2 h3 h4 h5 h6 h7 h8
    refine norm_ (a' := ?_) ?_ ?_
    rotate_left
    · simp only [putAll, Act.put, List.setIfInBounds_toArray, List.set_cons_zero, List.set_cons_succ]
      rfl
    refine pure_ (i := 7) (N := some 54) (v := ?_) (a' := ?_) #[true, true, true, true, true, true, true, true, false, false] rfl rfl (by kernel_rfl) (fun _ _ _ h => h) (Or.inl ⟨by rfl, ?_⟩) ?_ ?_
    rotate_left
    · intro w'
      go_simp
      with_reducible rfl
    rotate_left
    · simp only [Act.put, List.setIfInBounds_toArray, List.set_cons_zero, List.set_cons_succ, i64_w, i32_w]
      rfl
    refine one_ (i := 8) (N := some 55) #[true, true, true, true, true, true, true, true, true, false] rfl rfl (by kernel_rfl) (by decide) (fun K hK => ?_)
    refine value_ (v := .pointer (some ⟨wf.heap.size, 0, none⟩)) (w1 := wf.alloc (.cells #[.slice A1 l.length c1, .int .i64 lo, .int .i64 un, .pointer (some ⟨bm, 0, none⟩), .pointer (some ⟨bp, 0, none⟩), .slice (some ⟨gk, 0, none⟩) r7.length r7.length] 149)) (by rfl) rfl (by kernel_rfl) ?_
    have BE := Aside0.mk (blk_new wf (.cells #[.slice A1 l.length c1, .int .i64 lo, .int .i64 un, .pointer (some ⟨bm, 0, none⟩), .pointer (some ⟨bp, 0, none⟩), .slice (some ⟨gk, 0, none⟩) r7.length r7.length] 149))
    have GE := Aside0.mk HB5.out.size
    have n_B5 := Aside0.mk (blk_alloc B5.out (.cells #[.slice A1 l.length c1, .int .i64 lo, .int .i64 un, .pointer (some ⟨bm, 0, none⟩), .pointer (some ⟨bp, 0, none⟩), .slice (some ⟨gk, 0, none⟩) r7.length r7.length] 149))
    have n_HV := Aside0.mk (Kd.R_alloc HV.out (.cells #[.slice A1 l.length c1, .int .i64 lo, .int .i64 un, .pointer (some ⟨bm, 0, none⟩), .pointer (some ⟨bp, 0, none⟩), .slice (some ⟨gk, 0, none⟩) r7.length r7.length] 149))
    have n_BK := Aside0.mk (blk_alloc BK.out (.cells #[.slice A1 l.length c1, .int .i64 lo, .int .i64 un, .pointer (some ⟨bm, 0, none⟩), .pointer (some ⟨bp, 0, none⟩), .slice (some ⟨gk, 0, none⟩) r7.length r7.length] 149))
    have n_HM5 := Aside0.mk (HM5.out.below (below_alloc (Below.refl _ _) (.cells #[.slice A1 l.length c1, .int .i64 lo, .int .i64 un, .pointer (some ⟨bm, 0, none⟩), .pointer (some ⟨bp, 0, none⟩), .slice (some ⟨gk, 0, none⟩) r7.length r7.length] 149)))
    have n_HP5 := Aside0.mk (HP5.out.below (below_alloc (Below.refl _ _) (.cells #[.slice A1 l.length c1, .int .i64 lo, .int .i64 un, .pointer (some ⟨bm, 0, none⟩), .pointer (some ⟨bp, 0, none⟩), .slice (some ⟨gk, 0, none⟩) r7.length r7.length] 149)))
    have n_HQ5 := Aside0.mk (blk_alloc HQ5.out (.cells #[.slice A1 l.length c1, .int .i64 lo, .int .i64 un, .pointer (some ⟨bm, 0, none⟩), .pointer (some ⟨bp, 0, none⟩), .slice (some ⟨gk, 0, none⟩) r7.length r7.length] 149))
    have n_HR5 := Aside0.mk (Kd.C_alloc HR5.out (.cells #[.slice A1 l.length c1, .int .i64 lo, .int .i64 un, .pointer (some ⟨bm, 0, none⟩), .pointer (some ⟨bp, 0, none⟩), .slice (some ⟨gk, 0, none⟩) r7.length r7.length] 149))
    have n_HB5 := Aside0.mk (below_alloc HB5.out (.cells #[.slice A1 l.length c1, .int .i64 lo, .int .i64 un, .pointer (some ⟨bm, 0, none⟩), .pointer (some ⟨bp, 0, none⟩), .slice (some ⟨gk, 0, none⟩) r7.length r7.length] 149))
    clear B5 HV BK HM5 HP5 HQ5 HR5 HB5
    have B5 := n_B5
    have HV := n_HV
    have BK := n_BK
    have HM5 := n_HM5
    have HP5 := n_HP5
    have HQ5 := n_HQ5
    have HR5 := n_HR5
    have HB5 := n_HB5
    clear n_B5 n_HV n_BK n_HM5 n_HP5 n_HQ5 n_HR5 n_HB5
    refine hK.out _ _ B5.out (fun hHeld => ?_)
    clear hK K
    refine norm_ (a' := ?_) ?_ ?_
    rotate_left
    · show Act.put _ (some 55) _ = _
      simp only [Act.put, List.setIfInBounds_toArray, List.set_cons_zero, List.set_cons_succ, i64_w, i32_w]
      rfl
    clear hHeld
    generalize wf.alloc (.cells #[.slice A1 l.length c1, .int .i64 lo, .int .i64 un, .pointer (some ⟨bm, 0, none⟩), .pointer (some ⟨bp, 0, none⟩), .slice (some ⟨gk, 0, none⟩) r7.length r7.length] 149) = wa at B5 HV BK HM5 HP5 HQ5 HR5 HB5 BE ⊢
    generalize wf.heap.size = be at BE GE ⊢
    refine pure_ (i := 9) (N := some 10) (v := ?_) (a' := ?_) #[true, true, true, true, true, true, true, true, true, true] rfl rfl (by kernel_rfl) (fun _ _ _ h => h) (Or.inl ⟨by rfl, ?_⟩) ?_ ?_
    rotate_left
    · intro w'
      go_simp
      with_reducible rfl
    rotate_left
    · simp only [Act.put, List.setIfInBounds_toArray, List.set_cons_zero, List.set_cons_succ, i64_w, i32_w]
      rfl
    refine done_ (by kernel_rfl) ?_
    have c6 := (blk_cell B5.out 6).trans rfl
    have HE := Aside0.mk (fun k h => cz_over r7 k h)
    have x0 := Aside0.mk (show be ≠ gk from blk_ne BE.out BK.out (by decide))
    go_wp2_with fail
    go_loopw [59] (fun i wr => ∃ (k : Nat), k ≤ r7.length ∧ i = .int .i64 k ∧ Aside0 (Mod (fun q => q = gk) wa wr) ∧ Aside0 (wr.heap[gk]? = some (.cells (coresRow ((over r7 k).map cz)) 192 (0, 0)))) (fun i _ => r7.length - (intOf i).toNat)
    case atStart => exact ⟨0, Nat.zero_le _, rfl, ⟨Mod.refl _ _⟩, BK⟩
    case round =>
      obtain ⟨k, hk, rfl, HMD, BKw⟩ := hrel
      have BK2 := BK
      clear BK
      have BEw := Aside0.mk (HMD.out.blk BE.out x0.out)
      by_cases hlt : k < r7.length
      · have hT : decide ((k : Int) < (r7.length : Int)) = true := decide_eq_true (by omega)
        obtain ⟨ad, rfl, y0⟩ := Kd.at_int HRW.out (k : Int) (by omega) (by omega)
        have HBr := Aside0.mk (below_tr HB5.out (HMD.out.below (B := w.heap.size) (fun i hi => hi ▸ GK.out) HB5.out.size))
        replace y0 := (HBr.out.cell (World.block_lt_of_cell? w _ y0)).trans y0
        simp only [Int.toNat_natCast] at y0
        have hrd : rd r7 (k : Int) = r7.getD k 0 := by simp [rd]
        rw [hrd] at y0
        have hs := Aside0.mk (HE.out k hlt)
        generalize r7.getD k 0 = rv at y0 hs
        clear hrd HE
        have b5 := (blk_cell BEw.out 5).trans rfl
        obtain ⟨x9, hx9⟩ : ∃ x, (coresRow ((over r7 k).map cz))[k * 9 + 7]? = some x := by
          rw [coresRow_at _ k 7 (by decide), List.getElem?_eq_getElem (by rw [List.length_map, over_length r7 k hk]; exact hlt)]
          exact ⟨_, rfl⟩
        have fz := blk_frozen BKw.out (k * 9 + 7)
        have cz7 := (blk_cell BKw.out (k * 9 + 7)).trans hx9
        clear hx9
        go_wp2_with fail
        go_roundw
        case rel => exact ⟨k + 1, by omega, by go_num, ⟨HMD.out.setCell rfl _⟩, ⟨(blk_set BKw.out _ _).trans (by rw [hs.out])⟩⟩
        case measure => simp [intOf]; omega
      · have ek : k = r7.length := by omega
        subst ek
        have hT : decide ((r7.length : Int) < (r7.length : Int)) = false := decide_eq_false (by omega)
        go_wp2_with fail
        refine bodyPost_ret (v := .tuple #[.pointer (some ⟨be, 0, none⟩), .int .i64 0]) (by simp [results, Tryz.results51, go_sem, *]) rfl ?_
        have hA : Away wa (fun q => q = gk) [261, 3, 310, 314, 231, 227, 284, 22, 214] := fun q hq => ⟨_, 192, hq ▸ BK2.out, by decide⟩
        refine ⟨be, _, bm, bc, gc, vs, vb, bp, bq, vr, rs, gk, rfl, below_tr HB5.out (HMD.out.below (B := w.heap.size) (fun i hi => hi ▸ GK.out) HB5.out.size), ⟨(HMD.out.blk BE.out x0.out).trans (by simp), hA.R HMD.out HV.out (by decide), HM5.out.mod HMD.out (hA.sub (by decide)), HP5.out.mod HMD.out (hA.sub (by decide)), BKw.out.trans (by rw [cores_all])⟩, HMD.out.blk HQ5.out (fun e => by have h2 := HQ5.out; have h3 := BK2.out; rw [e] at h2; rw [h2] at h3; cases h3), HQ.out.1, HQ.out.2⟩
end Go.Proofs.YtjopodnlffaogaaGreatDoor.Tp
end
section
namespace Go.Proofs.YtjopodnlffaogaaGreatDoor.Tp
open Go.RowKit Go.Proofs.YtjopodnlffaogaaGreatDoorW.PrintWords Go.Proofs.YtjopodnlffaogaaGreatDoorW.PrintLast Go.Proofs.YtjopodnlffaogaaGreatDoorW.PrintMore
attribute [local go_sem] max2_int min2_int max_two min_two max_three min_three max_four min_four
set_option linter.unusedVariables false
set_option linter.unusedSimpArgs false
theorem wideF : Tryz.prog.follows .mixedOrders = true := by kernel_rfl
structure REnv (W w : World) (z : Array Value) (os : List (Nat × Obj)) : Prop where
  b0 : W.heap[w.heap.size]? = some (.cells z 35 (0, 0))
  hb : Below w.heap.size w W
  at_ : ∀ p, p ∈ os → W.heap[p.1]? = some p.2 ∧ w.heap.size < p.1
theorem REnv.alloc {W w : World} {z : Array Value} {os : List (Nat × Obj)} (h : REnv W w z os) (o : Obj) : REnv (W.alloc o) w z ((W.heap.size, o) :: os) :=
  ⟨blk_alloc h.b0 o, below_alloc h.hb o, by
    intro p hp
    rcases List.mem_cons.1 hp with rfl | hp
    · exact ⟨blk_new W o, blk_lt h.b0⟩
    · exact ⟨blk_alloc (h.at_ p hp).1 o, (h.at_ p hp).2⟩⟩
def RAsmOk (t : ByteArray) (l : List Ins) (lo un : Int) : Prop := ∀ W : World, Calls Tryz.prog 53 #[.string t] W fun e w' =>
  ∃ A c, e = .returned (.tuple #[.agg #[.slice A l.length c, .int .i64 lo, .int .i64 un], .int .i64 0, .int .i64 0]) ∧ Kd.R kins 201 w' W.heap.size (fun _ => True) (.slice A l.length c) l ∧ Below W.heap.size W w'
theorem rspec_end {w w6 : World} {gx gs gi gr : Nat} {A : Option Addr} {c : Nat} {l : List Ins} {lo un : Int} {szs xs r7 : List Int} {m : Int} {x0 x1 x2 x3 x4 x5 x6 y0 y1 y2 y3 y4 y5 y6 : Value} 
    (m0 : w6.heap[w.heap.size]? = some (.cells #[y0, y1, y2, y3, y4, y5, y6] 35 (0, 0))) (mx : w6.heap[gx]? = some (.cells #[x0, x1, x2, x3, x4, x5, x6] 35 (0, 0))) (lt : w.heap.size < gx) (hB : Below w.heap.size w w6)
    (ms : w6.heap[gs]? = some (.cells (szs.map (Value.int .i64)).toArray 3 (0, 0))) (mi : w6.heap[gi]? = some (.cells (xs.map (Value.int .u32)).toArray 22 (0, 0))) (mr : w6.heap[gr]? = some (.cells (r7.map (Value.int .u32)).toArray 22 (0, 0)))
    (hgs : w.heap.size ≤ gs) (hgi : w.heap.size ≤ gi) (hgr : w.heap.size ≤ gr) (hv : Kd.R kins 201 w6 w.heap.size (fun _ => True) (.slice A l.length c) l) (b1 : szs.length ≤ 1000000) (b2 : xs.length ≤ 1000000) (b3 : r7.length ≤ 1000000) :
    ∃ WF, WF = set7 (set3w w6 gx (.slice A l.length c) (.int .i64 lo) (.int .i64 un)) w.heap.size (.slice A l.length c) (.int .i64 lo) (.int .i64 un) (.slice (some ⟨gs, 0, none⟩) szs.length szs.length) (.slice (some ⟨gi, 0, none⟩) xs.length xs.length) (.int .i64 m) (.slice (some ⟨gr, 0, none⟩) r7.length r7.length) ∧
    Below w.heap.size w WF ∧ WF.heap[w.heap.size]? = some (.cells #[.slice A l.length c, .int .i64 lo, .int .i64 un, .slice (some ⟨gs, 0, none⟩) szs.length szs.length, .slice (some ⟨gi, 0, none⟩) xs.length xs.length, .int .i64 m, .slice (some ⟨gr, 0, none⟩) r7.length r7.length] 35 (0, 0)) ∧
    SpecIs w.heap.size WF (.agg #[.slice A l.length c, .int .i64 lo, .int .i64 un, .slice (some ⟨gs, 0, none⟩) szs.length szs.length, .slice (some ⟨gi, 0, none⟩) xs.length xs.length, .int .i64 m, .slice (some ⟨gr, 0, none⟩) r7.length r7.length]) l lo un szs xs m r7 := by
  refine ⟨_, rfl, ?_⟩
  have n1 : Mod (fun k => k = gx) w6 (set3w w6 gx (.slice A l.length c) (.int .i64 lo) (.int .i64 un)) := set3_mod w6 gx _ _ _
  generalize set3w w6 gx (.slice A l.length c) (.int .i64 lo) (.int .i64 un) = W3 at n1 ⊢
  have n2 := set7_mod W3 w.heap.size (.slice A l.length c) (.int .i64 lo) (.int .i64 un) (.slice (some ⟨gs, 0, none⟩) szs.length szs.length) (.slice (some ⟨gi, 0, none⟩) xs.length xs.length) (.int .i64 m) (.slice (some ⟨gr, 0, none⟩) r7.length r7.length)
  have n3 : W3.heap[w.heap.size]? = some (.cells #[y0, y1, y2, y3, y4, y5, y6] 35 (0, 0)) := n1.blk m0 (by omega)
  have n4 := set7_blk n3 (.slice A l.length c) (.int .i64 lo) (.int .i64 un) (.slice (some ⟨gs, 0, none⟩) szs.length szs.length) (.slice (some ⟨gi, 0, none⟩) xs.length xs.length) (.int .i64 m) (.slice (some ⟨gr, 0, none⟩) r7.length r7.length)
  generalize set7 W3 w.heap.size (.slice A l.length c) (.int .i64 lo) (.int .i64 un) (.slice (some ⟨gs, 0, none⟩) szs.length szs.length) (.slice (some ⟨gi, 0, none⟩) xs.length xs.length) (.int .i64 m) (.slice (some ⟨gr, 0, none⟩) r7.length r7.length) = WF at n2 n4 ⊢
  have hm : Mod (fun k => k = gx ∨ k = w.heap.size) w6 WF := (n1.mono (fun _ _ h => .inl h)).trans n2 (fun _ _ h => .inr h)
  have aw : ∀ q, (q = gx ∨ q = w.heap.size) → ∃ c t, w6.heap[q]? = some (.cells c t (0, 0)) ∧ t = 35 := by
    rintro q (rfl | rfl)
    · exact ⟨_, _, mx, rfl⟩
    · exact ⟨_, _, m0, rfl⟩
  have tb : ∀ {g t : Nat} {cs : Array Value}, w6.heap[g]? = some (.cells cs t (0, 0)) → t ≠ 35 → WF.heap[g]? = some (.cells cs t (0, 0)) := fun hh ht => hm.blkT hh (fun q hq => by
    obtain ⟨c, t, h1, rfl⟩ := aw q hq
    exact ⟨c, _, h1, ht⟩)
  have hv2 : Kd.R kins 201 WF w.heap.size (fun _ => True) (.slice A l.length c) l := R_mod hv hm (fun q hq => by
    obtain ⟨c, t, h1, rfl⟩ := aw q hq
    exact ⟨c, _, h1, by decide⟩)
  obtain ⟨_, hc, hC⟩ := Kd.R_reads' hv2
  refine ⟨below_mod hB (Nat.le_refl _) hm (by rintro q (rfl | rfl) <;> omega), n4, A, _, _, _, c, _, _, _, rfl, hc, reads_nil hC, Nat.le_refl _, (by intro h; cases h), fun W hk => ⟨(Kd.R_reads' (R_keep hv2 hk)).2.2, C_block (hk _ _ hgs (tb ms (by decide))) (by omega), C_block (hk _ _ hgi (tb mi (by decide))) (by omega), C_block (hk _ _ hgr (tb mr (by decide))) (by omega)⟩⟩
theorem rspec_end2 {w w6 : World} {gx gs gi : Nat} {AR : Option Addr} {cR : Nat} {A : Option Addr} {c : Nat} {l : List Ins} {lo un : Int} {szs xs r7 : List Int} {m : Int} {x0 x1 x2 x3 x4 x5 x6 y0 y1 y2 y3 y4 y5 y6 : Value} 
    (m0 : w6.heap[w.heap.size]? = some (.cells #[y0, y1, y2, y3, y4, y5, y6] 35 (0, 0))) (mx : w6.heap[gx]? = some (.cells #[x0, x1, x2, x3, x4, x5, x6] 35 (0, 0))) (lt : w.heap.size < gx) (hB : Below w.heap.size w w6)
    (ms : w6.heap[gs]? = some (.cells (szs.map (Value.int .i64)).toArray 3 (0, 0))) (mi : w6.heap[gi]? = some (.cells (xs.map (Value.int .u32)).toArray 22 (0, 0))) (mr : Kd.R (Kd.int .u32) 22 w6 w.heap.size (fun _ => True) (.slice AR r7.length cR) r7)
    (hgs : w.heap.size ≤ gs) (hgi : w.heap.size ≤ gi) (hv : Kd.R kins 201 w6 w.heap.size (fun _ => True) (.slice A l.length c) l) (b1 : szs.length ≤ 1000000) (b2 : xs.length ≤ 1000000) (b3 : r7.length ≤ 1000000) :
    ∃ WF, WF = set7 (set3w w6 gx (.slice A l.length c) (.int .i64 lo) (.int .i64 un)) w.heap.size (.slice A l.length c) (.int .i64 lo) (.int .i64 un) (.slice (some ⟨gs, 0, none⟩) szs.length szs.length) (.slice (some ⟨gi, 0, none⟩) xs.length xs.length) (.int .i64 m) (.slice AR r7.length cR) ∧
    Below w.heap.size w WF ∧ WF.heap[w.heap.size]? = some (.cells #[.slice A l.length c, .int .i64 lo, .int .i64 un, .slice (some ⟨gs, 0, none⟩) szs.length szs.length, .slice (some ⟨gi, 0, none⟩) xs.length xs.length, .int .i64 m, .slice AR r7.length cR] 35 (0, 0)) ∧
    SpecIs w.heap.size WF (.agg #[.slice A l.length c, .int .i64 lo, .int .i64 un, .slice (some ⟨gs, 0, none⟩) szs.length szs.length, .slice (some ⟨gi, 0, none⟩) xs.length xs.length, .int .i64 m, .slice AR r7.length cR]) l lo un szs xs m r7 := by
  refine ⟨_, rfl, ?_⟩
  have n1 : Mod (fun k => k = gx) w6 (set3w w6 gx (.slice A l.length c) (.int .i64 lo) (.int .i64 un)) := set3_mod w6 gx _ _ _
  generalize set3w w6 gx (.slice A l.length c) (.int .i64 lo) (.int .i64 un) = W3 at n1 ⊢
  have n2 := set7_mod W3 w.heap.size (.slice A l.length c) (.int .i64 lo) (.int .i64 un) (.slice (some ⟨gs, 0, none⟩) szs.length szs.length) (.slice (some ⟨gi, 0, none⟩) xs.length xs.length) (.int .i64 m) (.slice AR r7.length cR)
  have n3 : W3.heap[w.heap.size]? = some (.cells #[y0, y1, y2, y3, y4, y5, y6] 35 (0, 0)) := n1.blk m0 (by omega)
  have n4 := set7_blk n3 (.slice A l.length c) (.int .i64 lo) (.int .i64 un) (.slice (some ⟨gs, 0, none⟩) szs.length szs.length) (.slice (some ⟨gi, 0, none⟩) xs.length xs.length) (.int .i64 m) (.slice AR r7.length cR)
  generalize set7 W3 w.heap.size (.slice A l.length c) (.int .i64 lo) (.int .i64 un) (.slice (some ⟨gs, 0, none⟩) szs.length szs.length) (.slice (some ⟨gi, 0, none⟩) xs.length xs.length) (.int .i64 m) (.slice AR r7.length cR) = WF at n2 n4 ⊢
  have hm : Mod (fun k => k = gx ∨ k = w.heap.size) w6 WF := (n1.mono (fun _ _ h => .inl h)).trans n2 (fun _ _ h => .inr h)
  have aw : ∀ q, (q = gx ∨ q = w.heap.size) → ∃ c t, w6.heap[q]? = some (.cells c t (0, 0)) ∧ t = 35 := by
    rintro q (rfl | rfl)
    · exact ⟨_, _, mx, rfl⟩
    · exact ⟨_, _, m0, rfl⟩
  have tb : ∀ {g t : Nat} {cs : Array Value}, w6.heap[g]? = some (.cells cs t (0, 0)) → t ≠ 35 → WF.heap[g]? = some (.cells cs t (0, 0)) := fun hh ht => hm.blkT hh (fun q hq => by
    obtain ⟨c, t, h1, rfl⟩ := aw q hq
    exact ⟨c, _, h1, ht⟩)
  have hv2 : Kd.R kins 201 WF w.heap.size (fun _ => True) (.slice A l.length c) l := R_mod hv hm (fun q hq => by
    obtain ⟨c, t, h1, rfl⟩ := aw q hq
    exact ⟨c, _, h1, by decide⟩)
  have hr2 : Kd.R (Kd.int .u32) 22 WF w.heap.size (fun _ => True) (.slice AR r7.length cR) r7 := R_mod mr hm (fun q hq => by
    obtain ⟨c, t, h1, rfl⟩ := aw q hq
    exact ⟨c, _, h1, by decide⟩)
  obtain ⟨_, hc, hC⟩ := Kd.R_reads' hv2
  refine ⟨below_mod hB (Nat.le_refl _) hm (by rintro q (rfl | rfl) <;> omega), n4, A, _, _, _, c, _, _, _, rfl, hc, reads_nil hC, Nat.le_refl _, (by intro h; cases h), fun W hk => ⟨(Kd.R_reads' (R_keep hv2 hk)).2.2, C_block (hk _ _ hgs (tb ms (by decide))) (by omega), C_block (hk _ _ hgi (tb mi (by decide))) (by omega), (Kd.R_reads' (R_keep hr2 hk)).2.2⟩⟩
end Go.Proofs.YtjopodnlffaogaaGreatDoor.Tp
end
section
namespace Go.Proofs.YtjopodnlffaogaaGreatDoor.Tp
open Go.RowKit Go.Proofs.YtjopodnlffaogaaGreatDoorW.PrintWords Go.Proofs.YtjopodnlffaogaaGreatDoorW.PrintLast Go.Proofs.YtjopodnlffaogaaGreatDoorW.PrintMore
attribute [local go_sem] max2_int min2_int max_two min_two max_three min_three max_four min_four
set_option linter.unusedVariables false
set_option linter.unusedSimpArgs false
set_option maxHeartbeats 4000000 in
set_option maxRecDepth 100000 in
theorem rmcsSpec_calls (l : List Ins) (lo un : Int) (ha : RAsmOk ref18Text l lo un) (n : Nat) (w : World) (n1 : 1 ≤ n) (n64 : n ≤ 64) :
    Calls Tryz.prog 29 #[.int .i64 (n : Int)] w fun e w' => ∃ v, e = .returned (.tuple #[v, .bool true]) ∧ Below w.heap.size w w' ∧ SpecIs w.heap.size w' v l lo un [1, n, n] (List.replicate (1 + 2 * n) 0) 0 (List.replicate n 0) := by
  have HA := Aside0.mk ha
  have e0 : decide ((n : Int) < 1) = false := decide_eq_false (by omega)
  have e1 : decide (64 < (n : Int)) = false := decide_eq_false (by omega)
  obtain ⟨k, hk⟩ : ∃ k : Nat, k = 1 + 2 * n := ⟨_, rfl⟩
  rw [← hk]
  have hw1 : IntKind.i64.wrap (2 * (n : Int)) = 2 * (n : Int) := (wrap_nat _ (2 * n) (by omega) (by omega)).trans (by omega)
  have hw2 : IntKind.i64.wrap (1 + 2 * (n : Int)) = (k : Int) := wrap_nat _ k (by omega) (by omega)
  have MI := Aside0.mk (fun W : World => run_make1 (P := Tryz.prog) 33 22 (.int .u32 0) 4 Tryz.underlying33 (by kernel_rfl) rfl (by decide) k (by omega) W)
  have MR := Aside0.mk (fun W : World => run_make1 (P := Tryz.prog) 33 22 (.int .u32 0) 4 Tryz.underlying33 (by kernel_rfl) rfl (by decide) n (by omega) W)
  have WD := wideF
  clear ha
  have HK := Aside0.mk hk
  clear n1 hk
  go_enter Tryz.func29, Tryz.ntmps29
  go_wp2_with fail
  have HJ := Aside0.mk (show DJ w (.cells zero114 35) (w.alloc (.cells zero114 35)).drew from ⟨below_drew (below_alloc (Below.refl w.heap.size w) _), blk_new w _⟩)

  obtain ⟨ds, hds⟩ : ∃ ds : List Des, ds = [(fun _ => .int .i64 (n : Int), []), (fun _ => .int .i64 (n : Int), []), (fun gs => .slice (some ⟨(gs.getD 0 0), 0, none⟩) 3 3, [.cells #[.int .i64 1, .int .i64 (n : Int), .int .i64 (n : Int)] 3 (0, 0)]), (fun _ => .int .i64 (n : Int), []), (fun _ => .int .i64 (2 * (n : Int)), []), (fun _ => .int .i64 (k : Int), []), (fun gs => .slice (some ⟨(gs.getD 0 0), 0, none⟩) k k, [.cells (zeros k (.int .u32 0)) 22 (0, 0)]), (fun _ => .int .i64 (n : Int), []), (fun gs => .slice (some ⟨(gs.getD 0 0), 0, none⟩) n n, [.cells (zeros n (.int .u32 0)) 22 (0, 0)]), (fun gs => .agg #[.slice none 0 0, .int .i64 0, .int .i64 0, .slice (some ⟨(gs.getD 0 0), 0, none⟩) 3 3, .slice (some ⟨(gs.getD 1 0), 0, none⟩) k k, .int .i64 0, .slice (some ⟨(gs.getD 2 0), 0, none⟩) n n], [.cells #[.int .i64 1, .int .i64 (n : Int), .int .i64 (n : Int)] 3 (0, 0), .cells (zeros k (.int .u32 0)) 22 (0, 0), .cells (zeros n (.int .u32 0)) 22 (0, 0)]), (fun gs => .pointer (some ⟨(gs.getD 0 0), 0, none⟩), [.cells zero114 35 (0, 0)])] := ⟨_, rfl⟩
  refine region_made (w := w) (by kernel_rfl) (k := 11) rfl (.cells zero114 35 (0, 0)) ds (by kernel_rfl) (by kernel_rfl) rfl rfl HJ.out ?ob ?cont
  case ob =>
    refine obL_gen (fun QQ => ?_)
    rename_i aa1
    clear aa1 HA HJ e0 e1 HK WD
    refine obL_cons ?_ ?_
    · refine ob_val rfl (by rw [hds]; rfl) (fun a' w' hs => ?_)
      have e0 := hs.own 0 (by kernel_rfl) (v := .int .i64 (n : Int)) rfl
      clear hs hds
      go_simp
    refine obL_cons ?_ ?_
    · refine ob_val rfl (by rw [hds]; rfl) (fun a' w' hs => ?_)
      have e0 := hs.own 0 (by kernel_rfl) (v := .int .i64 (n : Int)) rfl
      clear hs hds
      go_simp
    refine obL_cons ?_ ?_
    · refine ob_make rfl (by rw [hds]; rfl) (fun a' w' hs => ?_)
      have e15 := hs.val 0 15 (by kernel_rfl) (by kernel_rfl) (v := .int .i64 (n : Int)) (by rw [hds]; rfl)
      have e16 := hs.val 1 16 (by kernel_rfl) (by kernel_rfl) (v := .int .i64 (n : Int)) (by rw [hds]; rfl)
      clear hs hds
      go_simp
    refine obL_cons ?_ ?_
    · refine ob_val rfl (by rw [hds]; rfl) (fun a' w' hs => ?_)
      have e0 := hs.own 0 (by kernel_rfl) (v := .int .i64 (n : Int)) rfl
      clear hs hds
      go_simp
    refine obL_cons ?_ ?_
    · refine ob_val rfl (by rw [hds]; rfl) (fun a' w' hs => ?_)
      have e18 := hs.val 3 18 (by kernel_rfl) (by kernel_rfl) (v := .int .i64 (n : Int)) (by rw [hds]; rfl)
      clear hs hds
      go_simp
    refine obL_cons ?_ ?_
    · refine ob_val rfl (by rw [hds]; rfl) (fun a' w' hs => ?_)
      have e19 := hs.val 4 19 (by kernel_rfl) (by kernel_rfl) (v := .int .i64 (2 * (n : Int))) (by rw [hds]; rfl)
      clear hs hds
      go_simp
    refine obL_cons ?_ ?_
    · refine ob_make rfl (by rw [hds]; rfl) (fun a' w' hs => ?_)
      have e20 := hs.val 5 20 (by kernel_rfl) (by kernel_rfl) (v := .int .i64 (k : Int)) (by rw [hds]; rfl)
      clear hs hds
      have hmk := MI.out w'; go_simp
    refine obL_cons ?_ ?_
    · refine ob_val rfl (by rw [hds]; rfl) (fun a' w' hs => ?_)
      have e0 := hs.own 0 (by kernel_rfl) (v := .int .i64 (n : Int)) rfl
      clear hs hds
      go_simp
    refine obL_cons ?_ ?_
    · refine ob_make rfl (by rw [hds]; rfl) (fun a' w' hs => ?_)
      have e22 := hs.val 7 22 (by kernel_rfl) (by kernel_rfl) (v := .int .i64 (n : Int)) (by rw [hds]; rfl)
      clear hs hds
      have hmk := MR.out w'; go_simp
    refine obL_cons ?_ ?_
    · refine ob_mix rfl (by rw [hds]; rfl) (fun a' w' hs => ?_)
      obtain ⟨g17, e17, b17⟩ := hs.des 2 17 (by kernel_rfl) (by kernel_rfl) (by rw [hds]; rfl)
      obtain ⟨g21, e21, b21⟩ := hs.des 6 21 (by kernel_rfl) (by kernel_rfl) (by rw [hds]; rfl)
      obtain ⟨g23, e23, b23⟩ := hs.des 8 23 (by kernel_rfl) (by kernel_rfl) (by rw [hds]; rfl)
      clear hs hds
      obtain ⟨c17, rfl, h17, l17⟩ := b17.one
      obtain ⟨c21, rfl, h21, l21⟩ := b21.one
      obtain ⟨c23, rfl, h23, l23⟩ := b23.one
      refine ⟨[c17, c21, c23], ?_, Blks.mk3 h17 l17 h21 l21 h23 l23⟩
      dsimp only [List.getD_cons_zero, List.getD_cons_succ] at *
      go_simp
    refine obL_cons ?_ obL_nil
    · refine ob_make rfl (by rw [hds]; rfl) (fun a' w' hs => ?_)
      clear hs hds
      kernel_rfl
  case cont =>
    intro vs wf hJ hv
    generalize hA : putV _ _ 0 vs = A
    have q0 := hv.val 0 (.int .i64 (n : Int)) (by decide) (by rw [hds]; rfl)
    have q1 := hv.val 1 (.int .i64 (n : Int)) (by decide) (by rw [hds]; rfl)
    obtain ⟨x2, q2, F2, G2⟩ := hv.one 2 (fun gs => .slice (some ⟨(gs.getD 0 0), 0, none⟩) 3 3) (.cells #[.int .i64 1, .int .i64 (n : Int), .int .i64 (n : Int)] 3 (0, 0)) (by decide) (by rw [hds]; rfl)
    have q3 := hv.val 3 (.int .i64 (n : Int)) (by decide) (by rw [hds]; rfl)
    have q4 := hv.val 4 (.int .i64 (2 * (n : Int))) (by decide) (by rw [hds]; rfl)
    have q5 := hv.val 5 (.int .i64 (k : Int)) (by decide) (by rw [hds]; rfl)
    obtain ⟨x6, q6, F6, G6⟩ := hv.one 6 (fun gs => .slice (some ⟨(gs.getD 0 0), 0, none⟩) k k) (.cells (zeros k (.int .u32 0)) 22 (0, 0)) (by decide) (by rw [hds]; rfl)
    have q7 := hv.val 7 (.int .i64 (n : Int)) (by decide) (by rw [hds]; rfl)
    obtain ⟨x8, q8, F8, G8⟩ := hv.one 8 (fun gs => .slice (some ⟨(gs.getD 0 0), 0, none⟩) n n) (.cells (zeros n (.int .u32 0)) 22 (0, 0)) (by decide) (by rw [hds]; rfl)
    obtain ⟨g_s, g_i, g_r, q9, ⟨F_s, G_s⟩, ⟨F_i, G_i⟩, F_r, G_r⟩ := hv.three 9 (fun gs => .agg #[.slice none 0 0, .int .i64 0, .int .i64 0, .slice (some ⟨(gs.getD 0 0), 0, none⟩) 3 3, .slice (some ⟨(gs.getD 1 0), 0, none⟩) k k, .int .i64 0, .slice (some ⟨(gs.getD 2 0), 0, none⟩) n n]) (.cells #[.int .i64 1, .int .i64 (n : Int), .int .i64 (n : Int)] 3 (0, 0)) (.cells (zeros k (.int .u32 0)) 22 (0, 0)) (.cells (zeros n (.int .u32 0)) 22 (0, 0)) (by decide) (by rw [hds]; rfl)
    obtain ⟨g_x, q10, F10, G10⟩ := hv.one 10 (fun gs => .pointer (some ⟨(gs.getD 0 0), 0, none⟩)) (.cells zero114 35 (0, 0)) (by decide) (by rw [hds]; rfl)
    clear hv hds
    simp only [List.toList_toArray, List.take_succ_cons, List.take_zero, putV, Act.put, List.setIfInBounds_toArray, List.set_cons_zero, List.set_cons_succ, Nat.reduceAdd, List.getD_cons_zero, List.getD_cons_succ, q0, q1, q2, q3, q4, q5, q6, q7, q8, q9, q10] at hA
    subst hA
    clear q0 q1 q2 q3 q4 q5 q6 q7 q8 q9 q10 F2 G2 F6 G6 F8 G8
    refine wp_store_row 35 (.tmp 4) (.tmp 24) rfl g_x #[.slice none 0 0, .int .i64 0, .int .i64 0, .slice (some ⟨g_s, 0, none⟩) 3 3, .slice (some ⟨g_i, 0, none⟩) k k, .int .i64 0, .slice (some ⟨g_r, 0, none⟩) n n] rfl rfl 35 _ F10 (by kernel_rfl) rfl (by kernel_rfl) ?_
    have ne0 : w.heap.size ≠ g_x := Nat.ne_of_lt G10
    have ne_s : g_s ≠ g_x := blk_ne F_s F10 (by decide)
    have n_s := Aside0.mk ((setRow_other wf g_x _ #[.slice none 0 0, .int .i64 0, .int .i64 0, .slice (some ⟨g_s, 0, none⟩) 3 3, .slice (some ⟨g_i, 0, none⟩) k k, .int .i64 0, .slice (some ⟨g_r, 0, none⟩) n n] ne_s).trans F_s)
    have ne_i : g_i ≠ g_x := blk_ne F_i F10 (by decide)
    have n_i := Aside0.mk ((setRow_other wf g_x _ #[.slice none 0 0, .int .i64 0, .int .i64 0, .slice (some ⟨g_s, 0, none⟩) 3 3, .slice (some ⟨g_i, 0, none⟩) k k, .int .i64 0, .slice (some ⟨g_r, 0, none⟩) n n] ne_i).trans F_i)
    have ne_r : g_r ≠ g_x := blk_ne F_r F10 (by decide)
    have n_r := Aside0.mk ((setRow_other wf g_x _ #[.slice none 0 0, .int .i64 0, .int .i64 0, .slice (some ⟨g_s, 0, none⟩) 3 3, .slice (some ⟨g_i, 0, none⟩) k k, .int .i64 0, .slice (some ⟨g_r, 0, none⟩) n n] ne_r).trans F_r)
    have n_B0 := Aside0.mk (show (wf.setRow g_x #[.slice none 0 0, .int .i64 0, .int .i64 0, .slice (some ⟨g_s, 0, none⟩) 3 3, .slice (some ⟨g_i, 0, none⟩) k k, .int .i64 0, .slice (some ⟨g_r, 0, none⟩) n n]).heap[w.heap.size]? = some (.cells #[.slice none 0 0, .int .i64 0, .int .i64 0, .slice none 0 0, .slice none 0 0, .int .i64 0, .slice none 0 0] 35 (0, 0)) from (setRow_other wf g_x _ #[.slice none 0 0, .int .i64 0, .int .i64 0, .slice (some ⟨g_s, 0, none⟩) 3 3, .slice (some ⟨g_i, 0, none⟩) k k, .int .i64 0, .slice (some ⟨g_r, 0, none⟩) n n] ne0).trans hJ.at_)
    have n_x := Aside0.mk (setRow_heap wf g_x _ #[.slice none 0 0, .int .i64 0, .int .i64 0, .slice (some ⟨g_s, 0, none⟩) 3 3, .slice (some ⟨g_i, 0, none⟩) k k, .int .i64 0, .slice (some ⟨g_r, 0, none⟩) n n] 35 (0, 0) F10)
    have n_HB := Aside0.mk (below_setRow hJ.below (Nat.le_of_lt G10) #[.slice none 0 0, .int .i64 0, .int .i64 0, .slice (some ⟨g_s, 0, none⟩) 3 3, .slice (some ⟨g_i, 0, none⟩) k k, .int .i64 0, .slice (some ⟨g_r, 0, none⟩) n n])
    have L_s := Aside0.mk G_s
    have L_i := Aside0.mk G_i
    have L_r := Aside0.mk G_r
    have L_x := Aside0.mk G10
    clear ne_s ne_i ne_r F_s F_i F_r F10 hJ G_s G_i G_r G10
    generalize wf.setRow g_x #[.slice none 0 0, .int .i64 0, .int .i64 0, .slice (some ⟨g_s, 0, none⟩) 3 3, .slice (some ⟨g_i, 0, none⟩) k k, .int .i64 0, .slice (some ⟨g_r, 0, none⟩) n n] = wg at n_B0 n_x n_s n_i n_r n_HB ⊢
    change Exit.then _ _ _ _ _
    go_wp2_with (first | (go_at_call 58; refine (ref18_text _).mono ?_; rintro e w5 ⟨rfl, rfl⟩) | (go_at_call 53; refine (HA.out _).mono ?_; rintro e w6 ⟨A, c, rfl, hR, hb⟩; have HV := Aside0.mk (Kd.R_alloc (Kd.R_lower hR n_HB.out.size) (.cells #[.slice A l.length c, .int .i64 lo, .int .i64 un] 31)); have m0 := Aside0.mk (blk_below n_B0.out hb); have m_x := Aside0.mk (blk_below n_x.out hb); have k0 := Aside0.mk (blk_alloc m0.out (.cells #[.slice A l.length c, .int .i64 lo, .int .i64 un] 31)); have k_x := Aside0.mk (blk_alloc m_x.out (.cells #[.slice A l.length c, .int .i64 lo, .int .i64 un] 31)); have k_s := Aside0.mk (blk_alloc (blk_below n_s.out hb) (.cells #[.slice A l.length c, .int .i64 lo, .int .i64 un] 31)); have k_i := Aside0.mk (blk_alloc (blk_below n_i.out hb) (.cells #[.slice A l.length c, .int .i64 lo, .int .i64 un] 31)); have k_r := Aside0.mk (blk_alloc (blk_below n_r.out hb) (.cells #[.slice A l.length c, .int .i64 lo, .int .i64 un] 31)); have k_HB := Aside0.mk (below_alloc (below_step n_HB.out hb) (.cells #[.slice A l.length c, .int .i64 lo, .int .i64 un] 31)); clear hb hR n_B0 n_x n_s n_i n_r n_HB HA; obtain ⟨d0, f0, d1, f1, d2, f2, d3, f3, d4, f4, d5, f5, d6, f6⟩ := both7 k_x.out; obtain ⟨p0, u0, p1, u1, p2, u2, p3, u3, p4, u4, p5, u5, p6, u6⟩ := both7 k0.out; have ne0 : w.heap.size ≠ g_x := Nat.ne_of_lt L_x.out; have ne1 : g_x ≠ w.heap.size := fun e => ne0 e.symm; have ne2 : g_x ≠ w6.heap.size := Nat.ne_of_lt (blk_lt m_x.out); have ne3 : w6.heap.size ≠ g_x := fun e => ne2 e.symm; have ne4 : w.heap.size ≠ w6.heap.size := Nat.ne_of_lt (blk_lt m0.out); have ne5 : w6.heap.size ≠ w.heap.size := fun e => ne4 e.symm))
    clear d0 f0 p0 u0 d1 f1 p1 u1 d2 f2 p2 u2 d3 f3 p3 u3 d4 f4 p4 u4 d5 f5 p5 u5 d6 f6 p6 u6
    obtain ⟨WF, hWF, h1, h2, h3⟩ := rspec_end (szs := [1, n, n]) (xs := List.replicate k 0) (r7 := List.replicate n 0) (m := 0) (lo := lo) (un := un) k0.out k_x.out L_x.out k_HB.out k_s.out (by simpa [zeros] using k_i.out) (by simpa [zeros] using k_r.out) (Nat.le_of_lt L_s.out) (Nat.le_of_lt L_i.out) (Nat.le_of_lt L_r.out) HV.out (by simp) (by have := HK.out; simp; omega) (by simp; omega)
    simp only [List.length_replicate, List.length_set] at hWF h2 h3
    change bodyPost _ _ _ _ _ (set7 (set3w (w6.alloc (.cells #[.slice A l.length c, .int .i64 lo, .int .i64 un] 31)) g_x _ _ _) w.heap.size _ _ _ _ _ _ _)
    have hWF2 : WF = set7 (set3w (w6.alloc (.cells #[.slice A l.length c, .int .i64 lo, .int .i64 un] 31)) g_x (.slice A l.length c) (.int .i64 lo) (.int .i64 un)) w.heap.size (.slice A l.length c) (.int .i64 lo) (.int .i64 un) (.slice (some ⟨g_s, 0, none⟩) 3 3) (.slice (some ⟨g_i, 0, none⟩) k k) (.int .i64 0) (.slice (some ⟨g_r, 0, none⟩) n n) := hWF
    rw [← hWF2]
    clear hWF hWF2
    obtain ⟨r0, r1, r2, r3, r4, r5, r6⟩ := cells7 h2
    exact bodyPost_ret (v := .tuple #[.agg #[.slice A l.length c, .int .i64 lo, .int .i64 un, .slice (some ⟨g_s, 0, none⟩) 3 3, .slice (some ⟨g_i, 0, none⟩) k k, .int .i64 0, .slice (some ⟨g_r, 0, none⟩) n n], .bool true]) (by simp [results, Tryz.results29, go_sem, *]) rfl ⟨_, rfl, h1, h3⟩
end Go.Proofs.YtjopodnlffaogaaGreatDoor.Tp
end
section
namespace Go.Proofs.YtjopodnlffaogaaGreatDoor.Tp
open Go.RowKit Go.Proofs.YtjopodnlffaogaaGreatDoorW.PrintWords Go.Proofs.YtjopodnlffaogaaGreatDoorW.PrintLast Go.Proofs.YtjopodnlffaogaaGreatDoorW.PrintMore
attribute [local go_sem] max2_int min2_int max_two min_two max_three min_three max_four min_four
set_option linter.unusedVariables false
set_option linter.unusedSimpArgs false
set_option maxHeartbeats 4000000 in
set_option maxRecDepth 100000 in
theorem rk42Spec_calls (l : List Ins) (lo un : Int) (ha : RAsmOk ref19Text l lo un) (n : Nat) (w : World) (n1 : 1 ≤ n) (n64 : n ≤ 64) :
    Calls Tryz.prog 30 #[.int .i64 (n : Int)] w fun e w' => ∃ v, e = .returned (.tuple #[v, .bool true]) ∧ Below w.heap.size w w' ∧ SpecIs w.heap.size w' v l lo un [1, 1, n, n] (List.replicate (2 + 2 * n) 0) 0 (List.replicate n 0) := by
  have HA := Aside0.mk ha
  have e0 : decide ((n : Int) < 1) = false := decide_eq_false (by omega)
  have e1 : decide (64 < (n : Int)) = false := decide_eq_false (by omega)
  obtain ⟨k, hk⟩ : ∃ k : Nat, k = 2 + 2 * n := ⟨_, rfl⟩
  rw [← hk]
  have hw1 : IntKind.i64.wrap (2 * (n : Int)) = 2 * (n : Int) := (wrap_nat _ (2 * n) (by omega) (by omega)).trans (by omega)
  have hw2 : IntKind.i64.wrap (2 + 2 * (n : Int)) = (k : Int) := wrap_nat _ k (by omega) (by omega)
  have MI := Aside0.mk (fun W : World => run_make1 (P := Tryz.prog) 33 22 (.int .u32 0) 4 Tryz.underlying33 (by kernel_rfl) rfl (by decide) k (by omega) W)
  have MR := Aside0.mk (fun W : World => run_make1 (P := Tryz.prog) 33 22 (.int .u32 0) 4 Tryz.underlying33 (by kernel_rfl) rfl (by decide) n (by omega) W)
  have WD := wideF
  clear ha
  have HK := Aside0.mk hk
  clear n1 hk
  go_enter Tryz.func30, Tryz.ntmps30
  go_wp2_with fail
  have HJ := Aside0.mk (show DJ w (.cells zero114 35) (w.alloc (.cells zero114 35)).drew from ⟨below_drew (below_alloc (Below.refl w.heap.size w) _), blk_new w _⟩)

  obtain ⟨ds, hds⟩ : ∃ ds : List Des, ds = [(fun _ => .int .i64 (n : Int), []), (fun _ => .int .i64 (n : Int), []), (fun gs => .slice (some ⟨(gs.getD 0 0), 0, none⟩) 4 4, [.cells #[.int .i64 1, .int .i64 1, .int .i64 (n : Int), .int .i64 (n : Int)] 3 (0, 0)]), (fun _ => .int .i64 (n : Int), []), (fun _ => .int .i64 (2 * (n : Int)), []), (fun _ => .int .i64 (k : Int), []), (fun gs => .slice (some ⟨(gs.getD 0 0), 0, none⟩) k k, [.cells (zeros k (.int .u32 0)) 22 (0, 0)]), (fun _ => .int .i64 (n : Int), []), (fun gs => .slice (some ⟨(gs.getD 0 0), 0, none⟩) n n, [.cells (zeros n (.int .u32 0)) 22 (0, 0)]), (fun gs => .agg #[.slice none 0 0, .int .i64 0, .int .i64 0, .slice (some ⟨(gs.getD 0 0), 0, none⟩) 4 4, .slice (some ⟨(gs.getD 1 0), 0, none⟩) k k, .int .i64 0, .slice (some ⟨(gs.getD 2 0), 0, none⟩) n n], [.cells #[.int .i64 1, .int .i64 1, .int .i64 (n : Int), .int .i64 (n : Int)] 3 (0, 0), .cells (zeros k (.int .u32 0)) 22 (0, 0), .cells (zeros n (.int .u32 0)) 22 (0, 0)]), (fun gs => .pointer (some ⟨(gs.getD 0 0), 0, none⟩), [.cells zero114 35 (0, 0)])] := ⟨_, rfl⟩
  refine region_made (w := w) (by kernel_rfl) (k := 11) rfl (.cells zero114 35 (0, 0)) ds (by kernel_rfl) (by kernel_rfl) rfl rfl HJ.out ?ob ?cont
  case ob =>
    refine obL_gen (fun QQ => ?_)
    rename_i aa1
    clear aa1 HA HJ e0 e1 HK WD
    refine obL_cons ?_ ?_
    · refine ob_val rfl (by rw [hds]; rfl) (fun a' w' hs => ?_)
      have e0 := hs.own 0 (by kernel_rfl) (v := .int .i64 (n : Int)) rfl
      clear hs hds
      go_simp
    refine obL_cons ?_ ?_
    · refine ob_val rfl (by rw [hds]; rfl) (fun a' w' hs => ?_)
      have e0 := hs.own 0 (by kernel_rfl) (v := .int .i64 (n : Int)) rfl
      clear hs hds
      go_simp
    refine obL_cons ?_ ?_
    · refine ob_make rfl (by rw [hds]; rfl) (fun a' w' hs => ?_)
      have e15 := hs.val 0 15 (by kernel_rfl) (by kernel_rfl) (v := .int .i64 (n : Int)) (by rw [hds]; rfl)
      have e16 := hs.val 1 16 (by kernel_rfl) (by kernel_rfl) (v := .int .i64 (n : Int)) (by rw [hds]; rfl)
      clear hs hds
      go_simp
    refine obL_cons ?_ ?_
    · refine ob_val rfl (by rw [hds]; rfl) (fun a' w' hs => ?_)
      have e0 := hs.own 0 (by kernel_rfl) (v := .int .i64 (n : Int)) rfl
      clear hs hds
      go_simp
    refine obL_cons ?_ ?_
    · refine ob_val rfl (by rw [hds]; rfl) (fun a' w' hs => ?_)
      have e18 := hs.val 3 18 (by kernel_rfl) (by kernel_rfl) (v := .int .i64 (n : Int)) (by rw [hds]; rfl)
      clear hs hds
      go_simp
    refine obL_cons ?_ ?_
    · refine ob_val rfl (by rw [hds]; rfl) (fun a' w' hs => ?_)
      have e19 := hs.val 4 19 (by kernel_rfl) (by kernel_rfl) (v := .int .i64 (2 * (n : Int))) (by rw [hds]; rfl)
      clear hs hds
      go_simp
    refine obL_cons ?_ ?_
    · refine ob_make rfl (by rw [hds]; rfl) (fun a' w' hs => ?_)
      have e20 := hs.val 5 20 (by kernel_rfl) (by kernel_rfl) (v := .int .i64 (k : Int)) (by rw [hds]; rfl)
      clear hs hds
      have hmk := MI.out w'; go_simp
    refine obL_cons ?_ ?_
    · refine ob_val rfl (by rw [hds]; rfl) (fun a' w' hs => ?_)
      have e0 := hs.own 0 (by kernel_rfl) (v := .int .i64 (n : Int)) rfl
      clear hs hds
      go_simp
    refine obL_cons ?_ ?_
    · refine ob_make rfl (by rw [hds]; rfl) (fun a' w' hs => ?_)
      have e22 := hs.val 7 22 (by kernel_rfl) (by kernel_rfl) (v := .int .i64 (n : Int)) (by rw [hds]; rfl)
      clear hs hds
      have hmk := MR.out w'; go_simp
    refine obL_cons ?_ ?_
    · refine ob_mix rfl (by rw [hds]; rfl) (fun a' w' hs => ?_)
      obtain ⟨g17, e17, b17⟩ := hs.des 2 17 (by kernel_rfl) (by kernel_rfl) (by rw [hds]; rfl)
      obtain ⟨g21, e21, b21⟩ := hs.des 6 21 (by kernel_rfl) (by kernel_rfl) (by rw [hds]; rfl)
      obtain ⟨g23, e23, b23⟩ := hs.des 8 23 (by kernel_rfl) (by kernel_rfl) (by rw [hds]; rfl)
      clear hs hds
      obtain ⟨c17, rfl, h17, l17⟩ := b17.one
      obtain ⟨c21, rfl, h21, l21⟩ := b21.one
      obtain ⟨c23, rfl, h23, l23⟩ := b23.one
      refine ⟨[c17, c21, c23], ?_, Blks.mk3 h17 l17 h21 l21 h23 l23⟩
      dsimp only [List.getD_cons_zero, List.getD_cons_succ] at *
      go_simp
    refine obL_cons ?_ obL_nil
    · refine ob_make rfl (by rw [hds]; rfl) (fun a' w' hs => ?_)
      clear hs hds
      kernel_rfl
  case cont =>
    intro vs wf hJ hv
    generalize hA : putV _ _ 0 vs = A
    have q0 := hv.val 0 (.int .i64 (n : Int)) (by decide) (by rw [hds]; rfl)
    have q1 := hv.val 1 (.int .i64 (n : Int)) (by decide) (by rw [hds]; rfl)
    obtain ⟨x2, q2, F2, G2⟩ := hv.one 2 (fun gs => .slice (some ⟨(gs.getD 0 0), 0, none⟩) 4 4) (.cells #[.int .i64 1, .int .i64 1, .int .i64 (n : Int), .int .i64 (n : Int)] 3 (0, 0)) (by decide) (by rw [hds]; rfl)
    have q3 := hv.val 3 (.int .i64 (n : Int)) (by decide) (by rw [hds]; rfl)
    have q4 := hv.val 4 (.int .i64 (2 * (n : Int))) (by decide) (by rw [hds]; rfl)
    have q5 := hv.val 5 (.int .i64 (k : Int)) (by decide) (by rw [hds]; rfl)
    obtain ⟨x6, q6, F6, G6⟩ := hv.one 6 (fun gs => .slice (some ⟨(gs.getD 0 0), 0, none⟩) k k) (.cells (zeros k (.int .u32 0)) 22 (0, 0)) (by decide) (by rw [hds]; rfl)
    have q7 := hv.val 7 (.int .i64 (n : Int)) (by decide) (by rw [hds]; rfl)
    obtain ⟨x8, q8, F8, G8⟩ := hv.one 8 (fun gs => .slice (some ⟨(gs.getD 0 0), 0, none⟩) n n) (.cells (zeros n (.int .u32 0)) 22 (0, 0)) (by decide) (by rw [hds]; rfl)
    obtain ⟨g_s, g_i, g_r, q9, ⟨F_s, G_s⟩, ⟨F_i, G_i⟩, F_r, G_r⟩ := hv.three 9 (fun gs => .agg #[.slice none 0 0, .int .i64 0, .int .i64 0, .slice (some ⟨(gs.getD 0 0), 0, none⟩) 4 4, .slice (some ⟨(gs.getD 1 0), 0, none⟩) k k, .int .i64 0, .slice (some ⟨(gs.getD 2 0), 0, none⟩) n n]) (.cells #[.int .i64 1, .int .i64 1, .int .i64 (n : Int), .int .i64 (n : Int)] 3 (0, 0)) (.cells (zeros k (.int .u32 0)) 22 (0, 0)) (.cells (zeros n (.int .u32 0)) 22 (0, 0)) (by decide) (by rw [hds]; rfl)
    obtain ⟨g_x, q10, F10, G10⟩ := hv.one 10 (fun gs => .pointer (some ⟨(gs.getD 0 0), 0, none⟩)) (.cells zero114 35 (0, 0)) (by decide) (by rw [hds]; rfl)
    clear hv hds
    simp only [List.toList_toArray, List.take_succ_cons, List.take_zero, putV, Act.put, List.setIfInBounds_toArray, List.set_cons_zero, List.set_cons_succ, Nat.reduceAdd, List.getD_cons_zero, List.getD_cons_succ, q0, q1, q2, q3, q4, q5, q6, q7, q8, q9, q10] at hA
    subst hA
    clear q0 q1 q2 q3 q4 q5 q6 q7 q8 q9 q10 F2 G2 F6 G6 F8 G8
    refine wp_store_row 35 (.tmp 4) (.tmp 24) rfl g_x #[.slice none 0 0, .int .i64 0, .int .i64 0, .slice (some ⟨g_s, 0, none⟩) 4 4, .slice (some ⟨g_i, 0, none⟩) k k, .int .i64 0, .slice (some ⟨g_r, 0, none⟩) n n] rfl rfl 35 _ F10 (by kernel_rfl) rfl (by kernel_rfl) ?_
    have ne0 : w.heap.size ≠ g_x := Nat.ne_of_lt G10
    have ne_s : g_s ≠ g_x := blk_ne F_s F10 (by decide)
    have n_s := Aside0.mk ((setRow_other wf g_x _ #[.slice none 0 0, .int .i64 0, .int .i64 0, .slice (some ⟨g_s, 0, none⟩) 4 4, .slice (some ⟨g_i, 0, none⟩) k k, .int .i64 0, .slice (some ⟨g_r, 0, none⟩) n n] ne_s).trans F_s)
    have ne_i : g_i ≠ g_x := blk_ne F_i F10 (by decide)
    have n_i := Aside0.mk ((setRow_other wf g_x _ #[.slice none 0 0, .int .i64 0, .int .i64 0, .slice (some ⟨g_s, 0, none⟩) 4 4, .slice (some ⟨g_i, 0, none⟩) k k, .int .i64 0, .slice (some ⟨g_r, 0, none⟩) n n] ne_i).trans F_i)
    have ne_r : g_r ≠ g_x := blk_ne F_r F10 (by decide)
    have n_r := Aside0.mk ((setRow_other wf g_x _ #[.slice none 0 0, .int .i64 0, .int .i64 0, .slice (some ⟨g_s, 0, none⟩) 4 4, .slice (some ⟨g_i, 0, none⟩) k k, .int .i64 0, .slice (some ⟨g_r, 0, none⟩) n n] ne_r).trans F_r)
    have n_B0 := Aside0.mk (show (wf.setRow g_x #[.slice none 0 0, .int .i64 0, .int .i64 0, .slice (some ⟨g_s, 0, none⟩) 4 4, .slice (some ⟨g_i, 0, none⟩) k k, .int .i64 0, .slice (some ⟨g_r, 0, none⟩) n n]).heap[w.heap.size]? = some (.cells #[.slice none 0 0, .int .i64 0, .int .i64 0, .slice none 0 0, .slice none 0 0, .int .i64 0, .slice none 0 0] 35 (0, 0)) from (setRow_other wf g_x _ #[.slice none 0 0, .int .i64 0, .int .i64 0, .slice (some ⟨g_s, 0, none⟩) 4 4, .slice (some ⟨g_i, 0, none⟩) k k, .int .i64 0, .slice (some ⟨g_r, 0, none⟩) n n] ne0).trans hJ.at_)
    have n_x := Aside0.mk (setRow_heap wf g_x _ #[.slice none 0 0, .int .i64 0, .int .i64 0, .slice (some ⟨g_s, 0, none⟩) 4 4, .slice (some ⟨g_i, 0, none⟩) k k, .int .i64 0, .slice (some ⟨g_r, 0, none⟩) n n] 35 (0, 0) F10)
    have n_HB := Aside0.mk (below_setRow hJ.below (Nat.le_of_lt G10) #[.slice none 0 0, .int .i64 0, .int .i64 0, .slice (some ⟨g_s, 0, none⟩) 4 4, .slice (some ⟨g_i, 0, none⟩) k k, .int .i64 0, .slice (some ⟨g_r, 0, none⟩) n n])
    have L_s := Aside0.mk G_s
    have L_i := Aside0.mk G_i
    have L_r := Aside0.mk G_r
    have L_x := Aside0.mk G10
    clear ne_s ne_i ne_r F_s F_i F_r F10 hJ G_s G_i G_r G10
    generalize wf.setRow g_x #[.slice none 0 0, .int .i64 0, .int .i64 0, .slice (some ⟨g_s, 0, none⟩) 4 4, .slice (some ⟨g_i, 0, none⟩) k k, .int .i64 0, .slice (some ⟨g_r, 0, none⟩) n n] = wg at n_B0 n_x n_s n_i n_r n_HB ⊢
    change Exit.then _ _ _ _ _
    go_wp2_with (first | (go_at_call 59; refine (ref19_text _).mono ?_; rintro e w5 ⟨rfl, rfl⟩) | (go_at_call 53; refine (HA.out _).mono ?_; rintro e w6 ⟨A, c, rfl, hR, hb⟩; have HV := Aside0.mk (Kd.R_alloc (Kd.R_lower hR n_HB.out.size) (.cells #[.slice A l.length c, .int .i64 lo, .int .i64 un] 31)); have m0 := Aside0.mk (blk_below n_B0.out hb); have m_x := Aside0.mk (blk_below n_x.out hb); have k0 := Aside0.mk (blk_alloc m0.out (.cells #[.slice A l.length c, .int .i64 lo, .int .i64 un] 31)); have k_x := Aside0.mk (blk_alloc m_x.out (.cells #[.slice A l.length c, .int .i64 lo, .int .i64 un] 31)); have k_s := Aside0.mk (blk_alloc (blk_below n_s.out hb) (.cells #[.slice A l.length c, .int .i64 lo, .int .i64 un] 31)); have k_i := Aside0.mk (blk_alloc (blk_below n_i.out hb) (.cells #[.slice A l.length c, .int .i64 lo, .int .i64 un] 31)); have k_r := Aside0.mk (blk_alloc (blk_below n_r.out hb) (.cells #[.slice A l.length c, .int .i64 lo, .int .i64 un] 31)); have k_HB := Aside0.mk (below_alloc (below_step n_HB.out hb) (.cells #[.slice A l.length c, .int .i64 lo, .int .i64 un] 31)); clear hb hR n_B0 n_x n_s n_i n_r n_HB HA; obtain ⟨d0, f0, d1, f1, d2, f2, d3, f3, d4, f4, d5, f5, d6, f6⟩ := both7 k_x.out; obtain ⟨p0, u0, p1, u1, p2, u2, p3, u3, p4, u4, p5, u5, p6, u6⟩ := both7 k0.out; have ne0 : w.heap.size ≠ g_x := Nat.ne_of_lt L_x.out; have ne1 : g_x ≠ w.heap.size := fun e => ne0 e.symm; have ne2 : g_x ≠ w6.heap.size := Nat.ne_of_lt (blk_lt m_x.out); have ne3 : w6.heap.size ≠ g_x := fun e => ne2 e.symm; have ne4 : w.heap.size ≠ w6.heap.size := Nat.ne_of_lt (blk_lt m0.out); have ne5 : w6.heap.size ≠ w.heap.size := fun e => ne4 e.symm))
    clear d0 f0 p0 u0 d1 f1 p1 u1 d2 f2 p2 u2 d3 f3 p3 u3 d4 f4 p4 u4 d5 f5 p5 u5 d6 f6 p6 u6
    obtain ⟨WF, hWF, h1, h2, h3⟩ := rspec_end (szs := [1, 1, n, n]) (xs := List.replicate k 0) (r7 := List.replicate n 0) (m := 0) (lo := lo) (un := un) k0.out k_x.out L_x.out k_HB.out k_s.out (by simpa [zeros] using k_i.out) (by simpa [zeros] using k_r.out) (Nat.le_of_lt L_s.out) (Nat.le_of_lt L_i.out) (Nat.le_of_lt L_r.out) HV.out (by simp) (by have := HK.out; simp; omega) (by simp; omega)
    simp only [List.length_replicate, List.length_set] at hWF h2 h3
    change bodyPost _ _ _ _ _ (set7 (set3w (w6.alloc (.cells #[.slice A l.length c, .int .i64 lo, .int .i64 un] 31)) g_x _ _ _) w.heap.size _ _ _ _ _ _ _)
    have hWF2 : WF = set7 (set3w (w6.alloc (.cells #[.slice A l.length c, .int .i64 lo, .int .i64 un] 31)) g_x (.slice A l.length c) (.int .i64 lo) (.int .i64 un)) w.heap.size (.slice A l.length c) (.int .i64 lo) (.int .i64 un) (.slice (some ⟨g_s, 0, none⟩) 4 4) (.slice (some ⟨g_i, 0, none⟩) k k) (.int .i64 0) (.slice (some ⟨g_r, 0, none⟩) n n) := hWF
    rw [← hWF2]
    clear hWF hWF2
    obtain ⟨r0, r1, r2, r3, r4, r5, r6⟩ := cells7 h2
    exact bodyPost_ret (v := .tuple #[.agg #[.slice A l.length c, .int .i64 lo, .int .i64 un, .slice (some ⟨g_s, 0, none⟩) 4 4, .slice (some ⟨g_i, 0, none⟩) k k, .int .i64 0, .slice (some ⟨g_r, 0, none⟩) n n], .bool true]) (by simp [results, Tryz.results30, go_sem, *]) rfl ⟨_, rfl, h1, h3⟩
end Go.Proofs.YtjopodnlffaogaaGreatDoor.Tp
end
section
namespace Go.Proofs.YtjopodnlffaogaaGreatDoor.Tp
open Go.RowKit Go.Proofs.YtjopodnlffaogaaGreatDoorW.PrintWords Go.Proofs.YtjopodnlffaogaaGreatDoorW.PrintLast Go.Proofs.YtjopodnlffaogaaGreatDoorW.PrintMore
attribute [local go_sem] max2_int min2_int max_two min_two max_three min_three max_four min_four
set_option linter.unusedVariables false
set_option linter.unusedSimpArgs false
set_option maxHeartbeats 4000000 in
set_option maxRecDepth 100000 in
theorem rmcstrySpec_calls (l : List Ins) (lo un : Int) (ha : RAsmOk ref21Text l lo un) (n ea : Nat) (w : World) (n1 : 1 ≤ n) (n64 : n ≤ 64) (e1n : 1 ≤ ea) (e8 : ea ≤ 8) :
    Calls Tryz.prog 32 #[.int .i64 (n : Int), .int .i64 (ea : Int)] w fun e w' => ∃ v, e = .returned (.tuple #[v, .bool true]) ∧ Below w.heap.size w w' ∧ SpecIs w.heap.size w' v l lo un [1, ((n * ea + 1 : Nat) : Int), ((n * ea + 1 : Nat) : Int)] (List.replicate (2 * n * ea + 3) 0) ea (List.replicate n 0) := by
  have HA := Aside0.mk ha
  have e0 : decide ((n : Int) < 1) = false := decide_eq_false (by omega)
  have e1 : decide (64 < (n : Int)) = false := decide_eq_false (by omega)
  have e2 : decide ((ea : Int) < 1) = false := decide_eq_false (by omega)
  have e3 : decide (8 < (ea : Int)) = false := decide_eq_false (by omega)
  obtain ⟨p, hp⟩ : ∃ p : Nat, p = n * ea := ⟨_, rfl⟩
  have hp8 : p ≤ 512 := by rw [hp]; exact Nat.le_trans (Nat.mul_le_mul n64 e8) (by decide)
  have hw1 : IntKind.i64.wrap ((n : Int) * (ea : Int)) = (p : Int) := wrap_nat _ p (by rw [hp]; omega) (by omega)
  obtain ⟨q, hq⟩ : ∃ q : Nat, q = n * ea + 1 := ⟨_, rfl⟩
  rw [← hq]
  have hw2 : IntKind.i64.wrap ((p : Int) + 1) = (q : Int) := wrap_nat _ q (by omega) (by omega)
  obtain ⟨k, hk⟩ : ∃ k : Nat, k = 2 * n * ea + 3 := ⟨_, rfl⟩
  rw [← hk]
  have hk2 : k = 2 * p + 3 := by rw [hk, hp, Nat.mul_assoc]
  have hw3 : IntKind.i64.wrap (2 * (n : Int)) = 2 * (n : Int) := (wrap_nat _ (2 * n) (by omega) (by omega)).trans (by omega)
  have hw4 : IntKind.i64.wrap (2 * (n : Int) * (ea : Int)) = 2 * (p : Int) := (wrap_nat _ (2 * p) (by rw [hp, Int.mul_assoc]; push_cast; rfl) (by omega)).trans (by omega)
  have hw5 : IntKind.i64.wrap (2 * (p : Int) + 3) = (k : Int) := wrap_nat _ k (by omega) (by omega)
  have MI := Aside0.mk (fun W : World => run_make1 (P := Tryz.prog) 33 22 (.int .u32 0) 4 Tryz.underlying33 (by kernel_rfl) rfl (by decide) k (by omega) W)
  have MR := Aside0.mk (fun W : World => run_make1 (P := Tryz.prog) 33 22 (.int .u32 0) 4 Tryz.underlying33 (by kernel_rfl) rfl (by decide) n (by omega) W)
  have WD := wideF
  clear ha
  have HK := Aside0.mk (⟨hk2, hp8⟩ : k = 2 * p + 3 ∧ p ≤ 512)
  clear n1 hk hk2 hq hp hp8 e1n e8
  go_enter Tryz.func32, Tryz.ntmps32
  go_wp2_with fail
  have HJ := Aside0.mk (show DJ w (.cells zero114 35) (w.alloc (.cells zero114 35)).drew from ⟨below_drew (below_alloc (Below.refl w.heap.size w) _), blk_new w _⟩)

  obtain ⟨ds, hds⟩ : ∃ ds : List Des, ds = [(fun _ => .int .i64 (n : Int), []), (fun _ => .int .i64 (ea : Int), []), (fun _ => .int .i64 (p : Int), []), (fun _ => .int .i64 (q : Int), []), (fun _ => .int .i64 (n : Int), []), (fun _ => .int .i64 (ea : Int), []), (fun _ => .int .i64 (p : Int), []), (fun _ => .int .i64 (q : Int), []), (fun gs => .slice (some ⟨(gs.getD 0 0), 0, none⟩) 3 3, [.cells #[.int .i64 1, .int .i64 (q : Int), .int .i64 (q : Int)] 3 (0, 0)]), (fun _ => .int .i64 (n : Int), []), (fun _ => .int .i64 (2 * (n : Int)), []), (fun _ => .int .i64 (ea : Int), []), (fun _ => .int .i64 (2 * (p : Int)), []), (fun _ => .int .i64 (k : Int), []), (fun gs => .slice (some ⟨(gs.getD 0 0), 0, none⟩) k k, [.cells (zeros k (.int .u32 0)) 22 (0, 0)]), (fun _ => .int .i64 (ea : Int), []), (fun _ => .int .i64 (n : Int), []), (fun gs => .slice (some ⟨(gs.getD 0 0), 0, none⟩) n n, [.cells (zeros n (.int .u32 0)) 22 (0, 0)]), (fun gs => .agg #[.slice none 0 0, .int .i64 0, .int .i64 0, .slice (some ⟨(gs.getD 0 0), 0, none⟩) 3 3, .slice (some ⟨(gs.getD 1 0), 0, none⟩) k k, .int .i64 (ea : Int), .slice (some ⟨(gs.getD 2 0), 0, none⟩) n n], [.cells #[.int .i64 1, .int .i64 (q : Int), .int .i64 (q : Int)] 3 (0, 0), .cells (zeros k (.int .u32 0)) 22 (0, 0), .cells (zeros n (.int .u32 0)) 22 (0, 0)]), (fun gs => .pointer (some ⟨(gs.getD 0 0), 0, none⟩), [.cells zero114 35 (0, 0)])] := ⟨_, rfl⟩
  refine region_made (w := w) (by kernel_rfl) (k := 20) rfl (.cells zero114 35 (0, 0)) ds (by kernel_rfl) (by kernel_rfl) rfl rfl HJ.out ?ob ?cont
  case ob =>
    refine obL_gen (fun QQ => ?_)
    rename_i aa1
    clear aa1 HA HJ e0 e1 HK WD e2 e3
    refine obL_cons ?_ ?_
    · refine ob_val rfl (by rw [hds]; rfl) (fun a' w' hs => ?_)
      have e0 := hs.own 0 (by kernel_rfl) (v := .int .i64 (n : Int)) rfl
      clear hs hds
      go_simp
    refine obL_cons ?_ ?_
    · refine ob_val rfl (by rw [hds]; rfl) (fun a' w' hs => ?_)
      have e1 := hs.own 1 (by kernel_rfl) (v := .int .i64 (ea : Int)) rfl
      clear hs hds
      go_simp
    refine obL_cons ?_ ?_
    · refine ob_val rfl (by rw [hds]; rfl) (fun a' w' hs => ?_)
      have e25 := hs.val 0 25 (by kernel_rfl) (by kernel_rfl) (v := .int .i64 (n : Int)) (by rw [hds]; rfl)
      have e26 := hs.val 1 26 (by kernel_rfl) (by kernel_rfl) (v := .int .i64 (ea : Int)) (by rw [hds]; rfl)
      clear hs hds
      go_simp
    refine obL_cons ?_ ?_
    · refine ob_val rfl (by rw [hds]; rfl) (fun a' w' hs => ?_)
      have e27 := hs.val 2 27 (by kernel_rfl) (by kernel_rfl) (v := .int .i64 (p : Int)) (by rw [hds]; rfl)
      clear hs hds
      go_simp
    refine obL_cons ?_ ?_
    · refine ob_val rfl (by rw [hds]; rfl) (fun a' w' hs => ?_)
      have e0 := hs.own 0 (by kernel_rfl) (v := .int .i64 (n : Int)) rfl
      clear hs hds
      go_simp
    refine obL_cons ?_ ?_
    · refine ob_val rfl (by rw [hds]; rfl) (fun a' w' hs => ?_)
      have e1 := hs.own 1 (by kernel_rfl) (v := .int .i64 (ea : Int)) rfl
      clear hs hds
      go_simp
    refine obL_cons ?_ ?_
    · refine ob_val rfl (by rw [hds]; rfl) (fun a' w' hs => ?_)
      have e29 := hs.val 4 29 (by kernel_rfl) (by kernel_rfl) (v := .int .i64 (n : Int)) (by rw [hds]; rfl)
      have e30 := hs.val 5 30 (by kernel_rfl) (by kernel_rfl) (v := .int .i64 (ea : Int)) (by rw [hds]; rfl)
      clear hs hds
      go_simp
    refine obL_cons ?_ ?_
    · refine ob_val rfl (by rw [hds]; rfl) (fun a' w' hs => ?_)
      have e31 := hs.val 6 31 (by kernel_rfl) (by kernel_rfl) (v := .int .i64 (p : Int)) (by rw [hds]; rfl)
      clear hs hds
      go_simp
    refine obL_cons ?_ ?_
    · refine ob_make rfl (by rw [hds]; rfl) (fun a' w' hs => ?_)
      have e28 := hs.val 3 28 (by kernel_rfl) (by kernel_rfl) (v := .int .i64 (q : Int)) (by rw [hds]; rfl)
      have e32 := hs.val 7 32 (by kernel_rfl) (by kernel_rfl) (v := .int .i64 (q : Int)) (by rw [hds]; rfl)
      clear hs hds
      go_simp
    refine obL_cons ?_ ?_
    · refine ob_val rfl (by rw [hds]; rfl) (fun a' w' hs => ?_)
      have e0 := hs.own 0 (by kernel_rfl) (v := .int .i64 (n : Int)) rfl
      clear hs hds
      go_simp
    refine obL_cons ?_ ?_
    · refine ob_val rfl (by rw [hds]; rfl) (fun a' w' hs => ?_)
      have e34 := hs.val 9 34 (by kernel_rfl) (by kernel_rfl) (v := .int .i64 (n : Int)) (by rw [hds]; rfl)
      clear hs hds
      go_simp
    refine obL_cons ?_ ?_
    · refine ob_val rfl (by rw [hds]; rfl) (fun a' w' hs => ?_)
      have e1 := hs.own 1 (by kernel_rfl) (v := .int .i64 (ea : Int)) rfl
      clear hs hds
      go_simp
    refine obL_cons ?_ ?_
    · refine ob_val rfl (by rw [hds]; rfl) (fun a' w' hs => ?_)
      have e35 := hs.val 10 35 (by kernel_rfl) (by kernel_rfl) (v := .int .i64 (2 * (n : Int))) (by rw [hds]; rfl)
      have e36 := hs.val 11 36 (by kernel_rfl) (by kernel_rfl) (v := .int .i64 (ea : Int)) (by rw [hds]; rfl)
      clear hs hds
      go_simp
    refine obL_cons ?_ ?_
    · refine ob_val rfl (by rw [hds]; rfl) (fun a' w' hs => ?_)
      have e37 := hs.val 12 37 (by kernel_rfl) (by kernel_rfl) (v := .int .i64 (2 * (p : Int))) (by rw [hds]; rfl)
      clear hs hds
      go_simp
    refine obL_cons ?_ ?_
    · refine ob_make rfl (by rw [hds]; rfl) (fun a' w' hs => ?_)
      have e38 := hs.val 13 38 (by kernel_rfl) (by kernel_rfl) (v := .int .i64 (k : Int)) (by rw [hds]; rfl)
      clear hs hds
      have hmk := MI.out w'; go_simp
    refine obL_cons ?_ ?_
    · refine ob_val rfl (by rw [hds]; rfl) (fun a' w' hs => ?_)
      have e1 := hs.own 1 (by kernel_rfl) (v := .int .i64 (ea : Int)) rfl
      clear hs hds
      go_simp
    refine obL_cons ?_ ?_
    · refine ob_val rfl (by rw [hds]; rfl) (fun a' w' hs => ?_)
      have e0 := hs.own 0 (by kernel_rfl) (v := .int .i64 (n : Int)) rfl
      clear hs hds
      go_simp
    refine obL_cons ?_ ?_
    · refine ob_make rfl (by rw [hds]; rfl) (fun a' w' hs => ?_)
      have e41 := hs.val 16 41 (by kernel_rfl) (by kernel_rfl) (v := .int .i64 (n : Int)) (by rw [hds]; rfl)
      clear hs hds
      have hmk := MR.out w'; go_simp
    refine obL_cons ?_ ?_
    · refine ob_mix rfl (by rw [hds]; rfl) (fun a' w' hs => ?_)
      obtain ⟨g33, e33, b33⟩ := hs.des 8 33 (by kernel_rfl) (by kernel_rfl) (by rw [hds]; rfl)
      obtain ⟨g39, e39, b39⟩ := hs.des 14 39 (by kernel_rfl) (by kernel_rfl) (by rw [hds]; rfl)
      have e40 := hs.val 15 40 (by kernel_rfl) (by kernel_rfl) (v := .int .i64 (ea : Int)) (by rw [hds]; rfl)
      obtain ⟨g42, e42, b42⟩ := hs.des 17 42 (by kernel_rfl) (by kernel_rfl) (by rw [hds]; rfl)
      clear hs hds
      obtain ⟨c33, rfl, h33, l33⟩ := b33.one
      obtain ⟨c39, rfl, h39, l39⟩ := b39.one
      obtain ⟨c42, rfl, h42, l42⟩ := b42.one
      refine ⟨[c33, c39, c42], ?_, Blks.mk3 h33 l33 h39 l39 h42 l42⟩
      dsimp only [List.getD_cons_zero, List.getD_cons_succ] at *
      go_simp
    refine obL_cons ?_ obL_nil
    · refine ob_make rfl (by rw [hds]; rfl) (fun a' w' hs => ?_)
      clear hs hds
      kernel_rfl
  case cont =>
    intro vs wf hJ hv
    generalize hA : putV _ _ 0 vs = A
    have q0 := hv.val 0 (.int .i64 (n : Int)) (by decide) (by rw [hds]; rfl)
    have q1 := hv.val 1 (.int .i64 (ea : Int)) (by decide) (by rw [hds]; rfl)
    have q2 := hv.val 2 (.int .i64 (p : Int)) (by decide) (by rw [hds]; rfl)
    have q3 := hv.val 3 (.int .i64 (q : Int)) (by decide) (by rw [hds]; rfl)
    have q4 := hv.val 4 (.int .i64 (n : Int)) (by decide) (by rw [hds]; rfl)
    have q5 := hv.val 5 (.int .i64 (ea : Int)) (by decide) (by rw [hds]; rfl)
    have q6 := hv.val 6 (.int .i64 (p : Int)) (by decide) (by rw [hds]; rfl)
    have q7 := hv.val 7 (.int .i64 (q : Int)) (by decide) (by rw [hds]; rfl)
    obtain ⟨x8, q8, F8, G8⟩ := hv.one 8 (fun gs => .slice (some ⟨(gs.getD 0 0), 0, none⟩) 3 3) (.cells #[.int .i64 1, .int .i64 (q : Int), .int .i64 (q : Int)] 3 (0, 0)) (by decide) (by rw [hds]; rfl)
    have q9 := hv.val 9 (.int .i64 (n : Int)) (by decide) (by rw [hds]; rfl)
    have q10 := hv.val 10 (.int .i64 (2 * (n : Int))) (by decide) (by rw [hds]; rfl)
    have q11 := hv.val 11 (.int .i64 (ea : Int)) (by decide) (by rw [hds]; rfl)
    have q12 := hv.val 12 (.int .i64 (2 * (p : Int))) (by decide) (by rw [hds]; rfl)
    have q13 := hv.val 13 (.int .i64 (k : Int)) (by decide) (by rw [hds]; rfl)
    obtain ⟨x14, q14, F14, G14⟩ := hv.one 14 (fun gs => .slice (some ⟨(gs.getD 0 0), 0, none⟩) k k) (.cells (zeros k (.int .u32 0)) 22 (0, 0)) (by decide) (by rw [hds]; rfl)
    have q15 := hv.val 15 (.int .i64 (ea : Int)) (by decide) (by rw [hds]; rfl)
    have q16 := hv.val 16 (.int .i64 (n : Int)) (by decide) (by rw [hds]; rfl)
    obtain ⟨x17, q17, F17, G17⟩ := hv.one 17 (fun gs => .slice (some ⟨(gs.getD 0 0), 0, none⟩) n n) (.cells (zeros n (.int .u32 0)) 22 (0, 0)) (by decide) (by rw [hds]; rfl)
    obtain ⟨g_s, g_i, g_r, q18, ⟨F_s, G_s⟩, ⟨F_i, G_i⟩, F_r, G_r⟩ := hv.three 18 (fun gs => .agg #[.slice none 0 0, .int .i64 0, .int .i64 0, .slice (some ⟨(gs.getD 0 0), 0, none⟩) 3 3, .slice (some ⟨(gs.getD 1 0), 0, none⟩) k k, .int .i64 (ea : Int), .slice (some ⟨(gs.getD 2 0), 0, none⟩) n n]) (.cells #[.int .i64 1, .int .i64 (q : Int), .int .i64 (q : Int)] 3 (0, 0)) (.cells (zeros k (.int .u32 0)) 22 (0, 0)) (.cells (zeros n (.int .u32 0)) 22 (0, 0)) (by decide) (by rw [hds]; rfl)
    obtain ⟨g_x, q19, F19, G19⟩ := hv.one 19 (fun gs => .pointer (some ⟨(gs.getD 0 0), 0, none⟩)) (.cells zero114 35 (0, 0)) (by decide) (by rw [hds]; rfl)
    clear hv hds
    simp only [List.toList_toArray, List.take_succ_cons, List.take_zero, putV, Act.put, List.setIfInBounds_toArray, List.set_cons_zero, List.set_cons_succ, Nat.reduceAdd, List.getD_cons_zero, List.getD_cons_succ, q0, q1, q2, q3, q4, q5, q6, q7, q8, q9, q10, q11, q12, q13, q14, q15, q16, q17, q18, q19] at hA
    subst hA
    clear q0 q1 q2 q3 q4 q5 q6 q7 q8 q9 q10 q11 q12 q13 q14 q15 q16 q17 q18 q19 F8 G8 F14 G14 F17 G17
    refine wp_store_row 35 (.tmp 6) (.tmp 43) rfl g_x #[.slice none 0 0, .int .i64 0, .int .i64 0, .slice (some ⟨g_s, 0, none⟩) 3 3, .slice (some ⟨g_i, 0, none⟩) k k, .int .i64 (ea : Int), .slice (some ⟨g_r, 0, none⟩) n n] rfl rfl 35 _ F19 (by kernel_rfl) rfl (by kernel_rfl) ?_
    have ne0 : w.heap.size ≠ g_x := Nat.ne_of_lt G19
    have ne_s : g_s ≠ g_x := blk_ne F_s F19 (by decide)
    have n_s := Aside0.mk ((setRow_other wf g_x _ #[.slice none 0 0, .int .i64 0, .int .i64 0, .slice (some ⟨g_s, 0, none⟩) 3 3, .slice (some ⟨g_i, 0, none⟩) k k, .int .i64 (ea : Int), .slice (some ⟨g_r, 0, none⟩) n n] ne_s).trans F_s)
    have ne_i : g_i ≠ g_x := blk_ne F_i F19 (by decide)
    have n_i := Aside0.mk ((setRow_other wf g_x _ #[.slice none 0 0, .int .i64 0, .int .i64 0, .slice (some ⟨g_s, 0, none⟩) 3 3, .slice (some ⟨g_i, 0, none⟩) k k, .int .i64 (ea : Int), .slice (some ⟨g_r, 0, none⟩) n n] ne_i).trans F_i)
    have ne_r : g_r ≠ g_x := blk_ne F_r F19 (by decide)
    have n_r := Aside0.mk ((setRow_other wf g_x _ #[.slice none 0 0, .int .i64 0, .int .i64 0, .slice (some ⟨g_s, 0, none⟩) 3 3, .slice (some ⟨g_i, 0, none⟩) k k, .int .i64 (ea : Int), .slice (some ⟨g_r, 0, none⟩) n n] ne_r).trans F_r)
    have n_B0 := Aside0.mk (show (wf.setRow g_x #[.slice none 0 0, .int .i64 0, .int .i64 0, .slice (some ⟨g_s, 0, none⟩) 3 3, .slice (some ⟨g_i, 0, none⟩) k k, .int .i64 (ea : Int), .slice (some ⟨g_r, 0, none⟩) n n]).heap[w.heap.size]? = some (.cells #[.slice none 0 0, .int .i64 0, .int .i64 0, .slice none 0 0, .slice none 0 0, .int .i64 0, .slice none 0 0] 35 (0, 0)) from (setRow_other wf g_x _ #[.slice none 0 0, .int .i64 0, .int .i64 0, .slice (some ⟨g_s, 0, none⟩) 3 3, .slice (some ⟨g_i, 0, none⟩) k k, .int .i64 (ea : Int), .slice (some ⟨g_r, 0, none⟩) n n] ne0).trans hJ.at_)
    have n_x := Aside0.mk (setRow_heap wf g_x _ #[.slice none 0 0, .int .i64 0, .int .i64 0, .slice (some ⟨g_s, 0, none⟩) 3 3, .slice (some ⟨g_i, 0, none⟩) k k, .int .i64 (ea : Int), .slice (some ⟨g_r, 0, none⟩) n n] 35 (0, 0) F19)
    have n_HB := Aside0.mk (below_setRow hJ.below (Nat.le_of_lt G19) #[.slice none 0 0, .int .i64 0, .int .i64 0, .slice (some ⟨g_s, 0, none⟩) 3 3, .slice (some ⟨g_i, 0, none⟩) k k, .int .i64 (ea : Int), .slice (some ⟨g_r, 0, none⟩) n n])
    have L_s := Aside0.mk G_s
    have L_i := Aside0.mk G_i
    have L_r := Aside0.mk G_r
    have L_x := Aside0.mk G19
    clear ne_s ne_i ne_r F_s F_i F_r F19 hJ G_s G_i G_r G19
    generalize wf.setRow g_x #[.slice none 0 0, .int .i64 0, .int .i64 0, .slice (some ⟨g_s, 0, none⟩) 3 3, .slice (some ⟨g_i, 0, none⟩) k k, .int .i64 (ea : Int), .slice (some ⟨g_r, 0, none⟩) n n] = wg at n_B0 n_x n_s n_i n_r n_HB ⊢
    change Exit.then _ _ _ _ _
    go_wp2_with (first | (go_at_call 61; refine (ref21_text _).mono ?_; rintro e w5 ⟨rfl, rfl⟩) | (go_at_call 53; refine (HA.out _).mono ?_; rintro e w6 ⟨A, c, rfl, hR, hb⟩; have HV := Aside0.mk (Kd.R_alloc (Kd.R_lower hR n_HB.out.size) (.cells #[.slice A l.length c, .int .i64 lo, .int .i64 un] 31)); have m0 := Aside0.mk (blk_below n_B0.out hb); have m_x := Aside0.mk (blk_below n_x.out hb); have k0 := Aside0.mk (blk_alloc m0.out (.cells #[.slice A l.length c, .int .i64 lo, .int .i64 un] 31)); have k_x := Aside0.mk (blk_alloc m_x.out (.cells #[.slice A l.length c, .int .i64 lo, .int .i64 un] 31)); have k_s := Aside0.mk (blk_alloc (blk_below n_s.out hb) (.cells #[.slice A l.length c, .int .i64 lo, .int .i64 un] 31)); have k_i := Aside0.mk (blk_alloc (blk_below n_i.out hb) (.cells #[.slice A l.length c, .int .i64 lo, .int .i64 un] 31)); have k_r := Aside0.mk (blk_alloc (blk_below n_r.out hb) (.cells #[.slice A l.length c, .int .i64 lo, .int .i64 un] 31)); have k_HB := Aside0.mk (below_alloc (below_step n_HB.out hb) (.cells #[.slice A l.length c, .int .i64 lo, .int .i64 un] 31)); clear hb hR n_B0 n_x n_s n_i n_r n_HB HA; obtain ⟨d0, f0, d1, f1, d2, f2, d3, f3, d4, f4, d5, f5, d6, f6⟩ := both7 k_x.out; obtain ⟨p0, u0, p1, u1, p2, u2, p3, u3, p4, u4, p5, u5, p6, u6⟩ := both7 k0.out; have ne0 : w.heap.size ≠ g_x := Nat.ne_of_lt L_x.out; have ne1 : g_x ≠ w.heap.size := fun e => ne0 e.symm; have ne2 : g_x ≠ w6.heap.size := Nat.ne_of_lt (blk_lt m_x.out); have ne3 : w6.heap.size ≠ g_x := fun e => ne2 e.symm; have ne4 : w.heap.size ≠ w6.heap.size := Nat.ne_of_lt (blk_lt m0.out); have ne5 : w6.heap.size ≠ w.heap.size := fun e => ne4 e.symm))
    clear d0 f0 p0 u0 d1 f1 p1 u1 d2 f2 p2 u2 d3 f3 p3 u3 d4 f4 p4 u4 d5 f5 p5 u5 d6 f6 p6 u6
    obtain ⟨WF, hWF, h1, h2, h3⟩ := rspec_end (szs := [1, (q : Int), (q : Int)]) (xs := List.replicate k 0) (r7 := List.replicate n 0) (m := (ea : Int)) (lo := lo) (un := un) k0.out k_x.out L_x.out k_HB.out k_s.out (by simpa [zeros] using k_i.out) (by simpa [zeros] using k_r.out) (Nat.le_of_lt L_s.out) (Nat.le_of_lt L_i.out) (Nat.le_of_lt L_r.out) HV.out (by simp) (by have := HK.out; simp; omega) (by simp; omega)
    simp only [List.length_replicate, List.length_set] at hWF h2 h3
    change bodyPost _ _ _ _ _ (set7 (set3w (w6.alloc (.cells #[.slice A l.length c, .int .i64 lo, .int .i64 un] 31)) g_x _ _ _) w.heap.size _ _ _ _ _ _ _)
    have hWF2 : WF = set7 (set3w (w6.alloc (.cells #[.slice A l.length c, .int .i64 lo, .int .i64 un] 31)) g_x (.slice A l.length c) (.int .i64 lo) (.int .i64 un)) w.heap.size (.slice A l.length c) (.int .i64 lo) (.int .i64 un) (.slice (some ⟨g_s, 0, none⟩) 3 3) (.slice (some ⟨g_i, 0, none⟩) k k) (.int .i64 (ea : Int)) (.slice (some ⟨g_r, 0, none⟩) n n) := hWF
    rw [← hWF2]
    clear hWF hWF2
    obtain ⟨r0, r1, r2, r3, r4, r5, r6⟩ := cells7 h2
    exact bodyPost_ret (v := .tuple #[.agg #[.slice A l.length c, .int .i64 lo, .int .i64 un, .slice (some ⟨g_s, 0, none⟩) 3 3, .slice (some ⟨g_i, 0, none⟩) k k, .int .i64 (ea : Int), .slice (some ⟨g_r, 0, none⟩) n n], .bool true]) (by simp [results, Tryz.results32, go_sem, *]) rfl ⟨_, rfl, h1, h3⟩
end Go.Proofs.YtjopodnlffaogaaGreatDoor.Tp
end
section
namespace Go.Proofs.YtjopodnlffaogaaGreatDoor.Tp
open Go.RowKit Go.Proofs.YtjopodnlffaogaaGreatDoorW.PrintWords Go.Proofs.YtjopodnlffaogaaGreatDoorW.PrintLast Go.Proofs.YtjopodnlffaogaaGreatDoorW.PrintMore
attribute [local go_sem] max2_int min2_int max_two min_two max_three min_three max_four min_four
set_option linter.unusedVariables false
set_option linter.unusedSimpArgs false
set_option maxHeartbeats 4000000 in
set_option maxRecDepth 100000 in
theorem rclhtrySpec_calls (l : List Ins) (lo un : Int) (ha : RAsmOk ref20Text l lo un) (n ea : Nat) (w : World) (n1 : 1 ≤ n) (n64 : n ≤ 64) (e2n : 2 ≤ ea) (e8 : ea ≤ 8) :
    Calls Tryz.prog 31 #[.int .i64 (n : Int), .int .i64 (ea : Int)] w fun e w' => ∃ v, e = .returned (.tuple #[v, .bool true]) ∧ Below w.heap.size w w' ∧ SpecIs w.heap.size w' v l lo un [1, ((n * ea + 1 : Nat) : Int)] ((List.replicate (n * ea + 2) 0).set 1 1) ea (List.replicate n 0) := by
  have HA := Aside0.mk ha
  have e0 : decide ((n : Int) < 1) = false := decide_eq_false (by omega)
  have e1 : decide (64 < (n : Int)) = false := decide_eq_false (by omega)
  have e2 : decide ((ea : Int) < 2) = false := decide_eq_false (by omega)
  have e3 : decide (8 < (ea : Int)) = false := decide_eq_false (by omega)
  obtain ⟨p, hp⟩ : ∃ p : Nat, p = n * ea := ⟨_, rfl⟩
  have hp8 : p ≤ 512 := by rw [hp]; exact Nat.le_trans (Nat.mul_le_mul n64 e8) (by decide)
  have hw1 : IntKind.i64.wrap ((n : Int) * (ea : Int)) = (p : Int) := wrap_nat _ p (by rw [hp]; omega) (by omega)
  obtain ⟨q, hq⟩ : ∃ q : Nat, q = n * ea + 1 := ⟨_, rfl⟩
  rw [← hq]
  have hw2 : IntKind.i64.wrap ((p : Int) + 1) = (q : Int) := wrap_nat _ q (by omega) (by omega)
  obtain ⟨k, hk⟩ : ∃ k : Nat, k = n * ea + 2 := ⟨_, rfl⟩
  rw [← hk]
  have hk2 : k = p + 2 := by rw [hk, hp]
  have hnp : n ≤ p := by rw [hp]; exact Nat.le_mul_of_pos_right n (by omega)
  have hw5 : IntKind.i64.wrap ((p : Int) + 2) = (k : Int) := wrap_nat _ k (by omega) (by omega)
  have MI := Aside0.mk (fun W : World => run_make1 (P := Tryz.prog) 33 22 (.int .u32 0) 4 Tryz.underlying33 (by kernel_rfl) rfl (by decide) k (by omega) W)
  have MR := Aside0.mk (fun W : World => run_make1 (P := Tryz.prog) 33 22 (.int .u32 0) 4 Tryz.underlying33 (by kernel_rfl) rfl (by decide) n (by omega) W)
  have WD := wideF
  clear ha
  have HK := Aside0.mk (⟨hk2, hp8, hnp⟩ : k = p + 2 ∧ p ≤ 512 ∧ n ≤ p)
  clear n1 hk hk2 hnp hq hp hp8 e2n e8
  go_enter Tryz.func31, Tryz.ntmps31
  go_wp2_with fail
  have HJ := Aside0.mk (show DJ w (.cells zero114 35) (w.alloc (.cells zero114 35)).drew from ⟨below_drew (below_alloc (Below.refl w.heap.size w) _), blk_new w _⟩)

  obtain ⟨ds, hds⟩ : ∃ ds : List Des, ds = [(fun _ => .int .i64 (n : Int), []), (fun _ => .int .i64 (ea : Int), []), (fun _ => .int .i64 (p : Int), []), (fun _ => .int .i64 (q : Int), []), (fun gs => .slice (some ⟨(gs.getD 0 0), 0, none⟩) 2 2, [.cells #[.int .i64 1, .int .i64 (q : Int)] 3 (0, 0)]), (fun _ => .int .i64 (n : Int), []), (fun _ => .int .i64 (ea : Int), []), (fun _ => .int .i64 (p : Int), []), (fun _ => .int .i64 (k : Int), []), (fun gs => .slice (some ⟨(gs.getD 0 0), 0, none⟩) k k, [.cells (zeros k (.int .u32 0)) 22 (0, 0)]), (fun _ => .int .i64 (ea : Int), []), (fun _ => .int .i64 (n : Int), []), (fun gs => .slice (some ⟨(gs.getD 0 0), 0, none⟩) n n, [.cells (zeros n (.int .u32 0)) 22 (0, 0)]), (fun gs => .agg #[.slice none 0 0, .int .i64 0, .int .i64 0, .slice (some ⟨(gs.getD 0 0), 0, none⟩) 2 2, .slice (some ⟨(gs.getD 1 0), 0, none⟩) k k, .int .i64 (ea : Int), .slice (some ⟨(gs.getD 2 0), 0, none⟩) n n], [.cells #[.int .i64 1, .int .i64 (q : Int)] 3 (0, 0), .cells (zeros k (.int .u32 0)) 22 (0, 0), .cells (zeros n (.int .u32 0)) 22 (0, 0)]), (fun gs => .pointer (some ⟨(gs.getD 0 0), 0, none⟩), [.cells zero114 35 (0, 0)])] := ⟨_, rfl⟩
  refine region_made (w := w) (by kernel_rfl) (k := 15) rfl (.cells zero114 35 (0, 0)) ds (by kernel_rfl) (by kernel_rfl) rfl rfl HJ.out ?ob ?cont
  case ob =>
    refine obL_gen (fun QQ => ?_)
    rename_i aa1
    clear aa1 HA HJ e0 e1 HK WD e2 e3
    refine obL_cons ?_ ?_
    · refine ob_val rfl (by rw [hds]; rfl) (fun a' w' hs => ?_)
      have e0 := hs.own 0 (by kernel_rfl) (v := .int .i64 (n : Int)) rfl
      clear hs hds
      go_simp
    refine obL_cons ?_ ?_
    · refine ob_val rfl (by rw [hds]; rfl) (fun a' w' hs => ?_)
      have e1 := hs.own 1 (by kernel_rfl) (v := .int .i64 (ea : Int)) rfl
      clear hs hds
      go_simp
    refine obL_cons ?_ ?_
    · refine ob_val rfl (by rw [hds]; rfl) (fun a' w' hs => ?_)
      have e25 := hs.val 0 25 (by kernel_rfl) (by kernel_rfl) (v := .int .i64 (n : Int)) (by rw [hds]; rfl)
      have e26 := hs.val 1 26 (by kernel_rfl) (by kernel_rfl) (v := .int .i64 (ea : Int)) (by rw [hds]; rfl)
      clear hs hds
      go_simp
    refine obL_cons ?_ ?_
    · refine ob_val rfl (by rw [hds]; rfl) (fun a' w' hs => ?_)
      have e27 := hs.val 2 27 (by kernel_rfl) (by kernel_rfl) (v := .int .i64 (p : Int)) (by rw [hds]; rfl)
      clear hs hds
      go_simp
    refine obL_cons ?_ ?_
    · refine ob_make rfl (by rw [hds]; rfl) (fun a' w' hs => ?_)
      have e28 := hs.val 3 28 (by kernel_rfl) (by kernel_rfl) (v := .int .i64 (q : Int)) (by rw [hds]; rfl)
      clear hs hds
      go_simp
    refine obL_cons ?_ ?_
    · refine ob_val rfl (by rw [hds]; rfl) (fun a' w' hs => ?_)
      have e0 := hs.own 0 (by kernel_rfl) (v := .int .i64 (n : Int)) rfl
      clear hs hds
      go_simp
    refine obL_cons ?_ ?_
    · refine ob_val rfl (by rw [hds]; rfl) (fun a' w' hs => ?_)
      have e1 := hs.own 1 (by kernel_rfl) (v := .int .i64 (ea : Int)) rfl
      clear hs hds
      go_simp
    refine obL_cons ?_ ?_
    · refine ob_val rfl (by rw [hds]; rfl) (fun a' w' hs => ?_)
      have e30 := hs.val 5 30 (by kernel_rfl) (by kernel_rfl) (v := .int .i64 (n : Int)) (by rw [hds]; rfl)
      have e31 := hs.val 6 31 (by kernel_rfl) (by kernel_rfl) (v := .int .i64 (ea : Int)) (by rw [hds]; rfl)
      clear hs hds
      go_simp
    refine obL_cons ?_ ?_
    · refine ob_val rfl (by rw [hds]; rfl) (fun a' w' hs => ?_)
      have e32 := hs.val 7 32 (by kernel_rfl) (by kernel_rfl) (v := .int .i64 (p : Int)) (by rw [hds]; rfl)
      clear hs hds
      go_simp
    refine obL_cons ?_ ?_
    · refine ob_make rfl (by rw [hds]; rfl) (fun a' w' hs => ?_)
      have e33 := hs.val 8 33 (by kernel_rfl) (by kernel_rfl) (v := .int .i64 (k : Int)) (by rw [hds]; rfl)
      clear hs hds
      have hmk := MI.out w'; go_simp
    refine obL_cons ?_ ?_
    · refine ob_val rfl (by rw [hds]; rfl) (fun a' w' hs => ?_)
      have e1 := hs.own 1 (by kernel_rfl) (v := .int .i64 (ea : Int)) rfl
      clear hs hds
      go_simp
    refine obL_cons ?_ ?_
    · refine ob_val rfl (by rw [hds]; rfl) (fun a' w' hs => ?_)
      have e0 := hs.own 0 (by kernel_rfl) (v := .int .i64 (n : Int)) rfl
      clear hs hds
      go_simp
    refine obL_cons ?_ ?_
    · refine ob_make rfl (by rw [hds]; rfl) (fun a' w' hs => ?_)
      have e36 := hs.val 11 36 (by kernel_rfl) (by kernel_rfl) (v := .int .i64 (n : Int)) (by rw [hds]; rfl)
      clear hs hds
      have hmk := MR.out w'; go_simp
    refine obL_cons ?_ ?_
    · refine ob_mix rfl (by rw [hds]; rfl) (fun a' w' hs => ?_)
      obtain ⟨g29, e29, b29⟩ := hs.des 4 29 (by kernel_rfl) (by kernel_rfl) (by rw [hds]; rfl)
      obtain ⟨g34, e34, b34⟩ := hs.des 9 34 (by kernel_rfl) (by kernel_rfl) (by rw [hds]; rfl)
      have e35 := hs.val 10 35 (by kernel_rfl) (by kernel_rfl) (v := .int .i64 (ea : Int)) (by rw [hds]; rfl)
      obtain ⟨g37, e37, b37⟩ := hs.des 12 37 (by kernel_rfl) (by kernel_rfl) (by rw [hds]; rfl)
      clear hs hds
      obtain ⟨c29, rfl, h29, l29⟩ := b29.one
      obtain ⟨c34, rfl, h34, l34⟩ := b34.one
      obtain ⟨c37, rfl, h37, l37⟩ := b37.one
      refine ⟨[c29, c34, c37], ?_, Blks.mk3 h29 l29 h34 l34 h37 l37⟩
      dsimp only [List.getD_cons_zero, List.getD_cons_succ] at *
      go_simp
    refine obL_cons ?_ obL_nil
    · refine ob_make rfl (by rw [hds]; rfl) (fun a' w' hs => ?_)
      clear hs hds
      kernel_rfl
  case cont =>
    intro vs wf hJ hv
    generalize hA : putV _ _ 0 vs = A
    have q0 := hv.val 0 (.int .i64 (n : Int)) (by decide) (by rw [hds]; rfl)
    have q1 := hv.val 1 (.int .i64 (ea : Int)) (by decide) (by rw [hds]; rfl)
    have q2 := hv.val 2 (.int .i64 (p : Int)) (by decide) (by rw [hds]; rfl)
    have q3 := hv.val 3 (.int .i64 (q : Int)) (by decide) (by rw [hds]; rfl)
    obtain ⟨x4, q4, F4, G4⟩ := hv.one 4 (fun gs => .slice (some ⟨(gs.getD 0 0), 0, none⟩) 2 2) (.cells #[.int .i64 1, .int .i64 (q : Int)] 3 (0, 0)) (by decide) (by rw [hds]; rfl)
    have q5 := hv.val 5 (.int .i64 (n : Int)) (by decide) (by rw [hds]; rfl)
    have q6 := hv.val 6 (.int .i64 (ea : Int)) (by decide) (by rw [hds]; rfl)
    have q7 := hv.val 7 (.int .i64 (p : Int)) (by decide) (by rw [hds]; rfl)
    have q8 := hv.val 8 (.int .i64 (k : Int)) (by decide) (by rw [hds]; rfl)
    obtain ⟨x9, q9, F9, G9⟩ := hv.one 9 (fun gs => .slice (some ⟨(gs.getD 0 0), 0, none⟩) k k) (.cells (zeros k (.int .u32 0)) 22 (0, 0)) (by decide) (by rw [hds]; rfl)
    have q10 := hv.val 10 (.int .i64 (ea : Int)) (by decide) (by rw [hds]; rfl)
    have q11 := hv.val 11 (.int .i64 (n : Int)) (by decide) (by rw [hds]; rfl)
    obtain ⟨x12, q12, F12, G12⟩ := hv.one 12 (fun gs => .slice (some ⟨(gs.getD 0 0), 0, none⟩) n n) (.cells (zeros n (.int .u32 0)) 22 (0, 0)) (by decide) (by rw [hds]; rfl)
    obtain ⟨g_s, g_i, g_r, q13, ⟨F_s, G_s⟩, ⟨F_i, G_i⟩, F_r, G_r⟩ := hv.three 13 (fun gs => .agg #[.slice none 0 0, .int .i64 0, .int .i64 0, .slice (some ⟨(gs.getD 0 0), 0, none⟩) 2 2, .slice (some ⟨(gs.getD 1 0), 0, none⟩) k k, .int .i64 (ea : Int), .slice (some ⟨(gs.getD 2 0), 0, none⟩) n n]) (.cells #[.int .i64 1, .int .i64 (q : Int)] 3 (0, 0)) (.cells (zeros k (.int .u32 0)) 22 (0, 0)) (.cells (zeros n (.int .u32 0)) 22 (0, 0)) (by decide) (by rw [hds]; rfl)
    obtain ⟨g_x, q14, F14, G14⟩ := hv.one 14 (fun gs => .pointer (some ⟨(gs.getD 0 0), 0, none⟩)) (.cells zero114 35 (0, 0)) (by decide) (by rw [hds]; rfl)
    clear hv hds
    simp only [List.toList_toArray, List.take_succ_cons, List.take_zero, putV, Act.put, List.setIfInBounds_toArray, List.set_cons_zero, List.set_cons_succ, Nat.reduceAdd, List.getD_cons_zero, List.getD_cons_succ, q0, q1, q2, q3, q4, q5, q6, q7, q8, q9, q10, q11, q12, q13, q14] at hA
    subst hA
    clear q0 q1 q2 q3 q4 q5 q6 q7 q8 q9 q10 q11 q12 q13 q14 F4 G4 F9 G9 F12 G12
    refine wp_store_row 35 (.tmp 6) (.tmp 38) rfl g_x #[.slice none 0 0, .int .i64 0, .int .i64 0, .slice (some ⟨g_s, 0, none⟩) 2 2, .slice (some ⟨g_i, 0, none⟩) k k, .int .i64 (ea : Int), .slice (some ⟨g_r, 0, none⟩) n n] rfl rfl 35 _ F14 (by kernel_rfl) rfl (by kernel_rfl) ?_
    have ne0 : w.heap.size ≠ g_x := Nat.ne_of_lt G14
    have ne_s : g_s ≠ g_x := blk_ne F_s F14 (by decide)
    have n_s := Aside0.mk ((setRow_other wf g_x _ #[.slice none 0 0, .int .i64 0, .int .i64 0, .slice (some ⟨g_s, 0, none⟩) 2 2, .slice (some ⟨g_i, 0, none⟩) k k, .int .i64 (ea : Int), .slice (some ⟨g_r, 0, none⟩) n n] ne_s).trans F_s)
    have ne_i : g_i ≠ g_x := blk_ne F_i F14 (by decide)
    have n_i := Aside0.mk ((setRow_other wf g_x _ #[.slice none 0 0, .int .i64 0, .int .i64 0, .slice (some ⟨g_s, 0, none⟩) 2 2, .slice (some ⟨g_i, 0, none⟩) k k, .int .i64 (ea : Int), .slice (some ⟨g_r, 0, none⟩) n n] ne_i).trans F_i)
    have ne_r : g_r ≠ g_x := blk_ne F_r F14 (by decide)
    have n_r := Aside0.mk ((setRow_other wf g_x _ #[.slice none 0 0, .int .i64 0, .int .i64 0, .slice (some ⟨g_s, 0, none⟩) 2 2, .slice (some ⟨g_i, 0, none⟩) k k, .int .i64 (ea : Int), .slice (some ⟨g_r, 0, none⟩) n n] ne_r).trans F_r)
    have n_B0 := Aside0.mk (show (wf.setRow g_x #[.slice none 0 0, .int .i64 0, .int .i64 0, .slice (some ⟨g_s, 0, none⟩) 2 2, .slice (some ⟨g_i, 0, none⟩) k k, .int .i64 (ea : Int), .slice (some ⟨g_r, 0, none⟩) n n]).heap[w.heap.size]? = some (.cells #[.slice none 0 0, .int .i64 0, .int .i64 0, .slice none 0 0, .slice none 0 0, .int .i64 0, .slice none 0 0] 35 (0, 0)) from (setRow_other wf g_x _ #[.slice none 0 0, .int .i64 0, .int .i64 0, .slice (some ⟨g_s, 0, none⟩) 2 2, .slice (some ⟨g_i, 0, none⟩) k k, .int .i64 (ea : Int), .slice (some ⟨g_r, 0, none⟩) n n] ne0).trans hJ.at_)
    have n_x := Aside0.mk (setRow_heap wf g_x _ #[.slice none 0 0, .int .i64 0, .int .i64 0, .slice (some ⟨g_s, 0, none⟩) 2 2, .slice (some ⟨g_i, 0, none⟩) k k, .int .i64 (ea : Int), .slice (some ⟨g_r, 0, none⟩) n n] 35 (0, 0) F14)
    have n_HB := Aside0.mk (below_setRow hJ.below (Nat.le_of_lt G14) #[.slice none 0 0, .int .i64 0, .int .i64 0, .slice (some ⟨g_s, 0, none⟩) 2 2, .slice (some ⟨g_i, 0, none⟩) k k, .int .i64 (ea : Int), .slice (some ⟨g_r, 0, none⟩) n n])
    have L_s := Aside0.mk G_s
    have L_i := Aside0.mk G_i
    have L_r := Aside0.mk G_r
    have L_x := Aside0.mk G14
    clear ne_s ne_i ne_r F_s F_i F_r F14 hJ G_s G_i G_r G14
    generalize wf.setRow g_x #[.slice none 0 0, .int .i64 0, .int .i64 0, .slice (some ⟨g_s, 0, none⟩) 2 2, .slice (some ⟨g_i, 0, none⟩) k k, .int .i64 (ea : Int), .slice (some ⟨g_r, 0, none⟩) n n] = wg at n_B0 n_x n_s n_i n_r n_HB ⊢
    change Exit.then _ _ _ _ _
    have x4 := (blk_cell n_x.out 4).trans rfl
    have zk : ∀ j : Nat, j < k → (zeros k (.int .u32 0))[j]? = some (.int .u32 0) := fun j hj => by simp [zeros, hj]
    have i1 := (blk_cell n_i.out 1).trans (zk 1 (by have := HK.out; omega))
    have fi := blk_frozen n_i.out 1
    have hb1 : decide ((1 : Int) < (k : Int)) = true := decide_eq_true (by have := HK.out; omega)
    have hb2 : (1 : Nat) < k := by have := HK.out; omega
    go_wp2_with fail
    have NIR := Aside0.mk (show ¬ g_r = g_i from fun e => by
      have h1 := n_r.out
      rw [e, n_i.out] at h1
      have h3 := congrArg (fun o => match o with | some (Obj.cells c _ _) => c.size | _ => 0) h1
      simp [zeros] at h3
      have h4 := HK.out
      omega)
    have M1 : Mod (fun q => q = g_i) wg (wg.setCell ⟨g_i, 1, none⟩ (.int .u32 1)) := Mod.setCell (S := fun q => q = g_i) (Mod.refl _ wg) (p := ⟨g_i, 1, none⟩) rfl _
    have o_i := Aside0.mk (show (wg.setCell ⟨g_i, 1, none⟩ (.int .u32 1)).heap[g_i]? = some (.cells (((List.replicate k 0).set 1 1).map (Value.int .u32)).toArray 22 (0, 0)) from (blk_set n_i.out 1 _).trans (by rw [zeros_row, row_set]))
    clear x4 zk i1 fi hb1 hb2
    have T1 : ∀ q, q = g_i → ∃ c t, wg.heap[q]? = some (.cells c t (0, 0)) ∧ t = 22 := fun q hq => ⟨_, _, hq ▸ n_i.out, rfl⟩
    have o_B0 := Aside0.mk (M1.blkT n_B0.out (fun q hq => by obtain ⟨c, t, h1, rfl⟩ := T1 q hq; exact ⟨c, _, h1, by decide⟩))
    have o_x := Aside0.mk (M1.blkT n_x.out (fun q hq => by obtain ⟨c, t, h1, rfl⟩ := T1 q hq; exact ⟨c, _, h1, by decide⟩))
    have o_s := Aside0.mk (M1.blkT n_s.out (fun q hq => by obtain ⟨c, t, h1, rfl⟩ := T1 q hq; exact ⟨c, _, h1, by decide⟩))
    have o_r := Aside0.mk (M1.blk n_r.out NIR.out)
    have o_HB := Aside0.mk (below_mod n_HB.out (Nat.le_refl _) M1 (fun q hq => hq ▸ Nat.le_of_lt L_i.out))
    clear M1 T1 n_B0 n_x n_s n_r n_i n_HB NIR
    have n_B0 := o_B0
    have n_x := o_x
    have n_s := o_s
    have n_r := o_r
    have n_i := o_i
    have n_HB := o_HB
    clear o_B0 o_x o_s o_r o_i o_HB
    generalize wg.setCell ⟨g_i, 1, none⟩ (.int .u32 1) = wh at n_B0 n_x n_s n_i n_r n_HB ⊢
    refine (ref20_text _).mono ?_
    rintro e w5 ⟨rfl, rfl⟩

    go_wp2_with (first | (go_at_call 60; refine (ref20_text _).mono ?_; rintro e w5 ⟨rfl, rfl⟩) | (go_at_call 53; refine (HA.out _).mono ?_; rintro e w6 ⟨A, c, rfl, hR, hb⟩; have HV := Aside0.mk (Kd.R_alloc (Kd.R_lower hR n_HB.out.size) (.cells #[.slice A l.length c, .int .i64 lo, .int .i64 un] 31)); have m0 := Aside0.mk (blk_below n_B0.out hb); have m_x := Aside0.mk (blk_below n_x.out hb); have k0 := Aside0.mk (blk_alloc m0.out (.cells #[.slice A l.length c, .int .i64 lo, .int .i64 un] 31)); have k_x := Aside0.mk (blk_alloc m_x.out (.cells #[.slice A l.length c, .int .i64 lo, .int .i64 un] 31)); have k_s := Aside0.mk (blk_alloc (blk_below n_s.out hb) (.cells #[.slice A l.length c, .int .i64 lo, .int .i64 un] 31)); have k_i := Aside0.mk (blk_alloc (blk_below n_i.out hb) (.cells #[.slice A l.length c, .int .i64 lo, .int .i64 un] 31)); have k_r := Aside0.mk (blk_alloc (blk_below n_r.out hb) (.cells #[.slice A l.length c, .int .i64 lo, .int .i64 un] 31)); have k_HB := Aside0.mk (below_alloc (below_step n_HB.out hb) (.cells #[.slice A l.length c, .int .i64 lo, .int .i64 un] 31)); clear hb hR n_B0 n_x n_s n_i n_r n_HB HA; obtain ⟨d0, f0, d1, f1, d2, f2, d3, f3, d4, f4, d5, f5, d6, f6⟩ := both7 k_x.out; obtain ⟨p0, u0, p1, u1, p2, u2, p3, u3, p4, u4, p5, u5, p6, u6⟩ := both7 k0.out; have ne0 : w.heap.size ≠ g_x := Nat.ne_of_lt L_x.out; have ne1 : g_x ≠ w.heap.size := fun e => ne0 e.symm; have ne2 : g_x ≠ w6.heap.size := Nat.ne_of_lt (blk_lt m_x.out); have ne3 : w6.heap.size ≠ g_x := fun e => ne2 e.symm; have ne4 : w.heap.size ≠ w6.heap.size := Nat.ne_of_lt (blk_lt m0.out); have ne5 : w6.heap.size ≠ w.heap.size := fun e => ne4 e.symm))
    clear d0 f0 p0 u0 d1 f1 p1 u1 d2 f2 p2 u2 d3 f3 p3 u3 d4 f4 p4 u4 d5 f5 p5 u5 d6 f6 p6 u6
    obtain ⟨WF, hWF, h1, h2, h3⟩ := rspec_end (szs := [1, (q : Int)]) (xs := (List.replicate k 0).set 1 1) (r7 := List.replicate n 0) (m := (ea : Int)) (lo := lo) (un := un) k0.out k_x.out L_x.out k_HB.out k_s.out k_i.out (by simpa [zeros] using k_r.out) (Nat.le_of_lt L_s.out) (Nat.le_of_lt L_i.out) (Nat.le_of_lt L_r.out) HV.out (by simp) (by have := HK.out; simp; omega) (by simp; omega)
    simp only [List.length_replicate, List.length_set] at hWF h2 h3
    change bodyPost _ _ _ _ _ (set7 (set3w (w6.alloc (.cells #[.slice A l.length c, .int .i64 lo, .int .i64 un] 31)) g_x _ _ _) w.heap.size _ _ _ _ _ _ _)
    have hWF2 : WF = set7 (set3w (w6.alloc (.cells #[.slice A l.length c, .int .i64 lo, .int .i64 un] 31)) g_x (.slice A l.length c) (.int .i64 lo) (.int .i64 un)) w.heap.size (.slice A l.length c) (.int .i64 lo) (.int .i64 un) (.slice (some ⟨g_s, 0, none⟩) 2 2) (.slice (some ⟨g_i, 0, none⟩) k k) (.int .i64 (ea : Int)) (.slice (some ⟨g_r, 0, none⟩) n n) := hWF
    rw [← hWF2]
    clear hWF hWF2
    obtain ⟨r0, r1, r2, r3, r4, r5, r6⟩ := cells7 h2
    exact bodyPost_ret (v := .tuple #[.agg #[.slice A l.length c, .int .i64 lo, .int .i64 un, .slice (some ⟨g_s, 0, none⟩) 2 2, .slice (some ⟨g_i, 0, none⟩) k k, .int .i64 (ea : Int), .slice (some ⟨g_r, 0, none⟩) n n], .bool true]) (by simp [results, Tryz.results31, go_sem, *]) rfl ⟨_, rfl, h1, h3⟩
end Go.Proofs.YtjopodnlffaogaaGreatDoor.Tp
end
section
namespace Go.Proofs.YtjopodnlffaogaaGreatDoor.Tp
open Go.RowKit Go.Proofs.YtjopodnlffaogaaGreatDoorW.PrintWords Go.Proofs.YtjopodnlffaogaaGreatDoorW.PrintLast Go.Proofs.YtjopodnlffaogaaGreatDoorW.PrintMore
attribute [local go_sem] max2_int min2_int max_two min_two max_three min_three max_four min_four
set_option linter.unusedVariables false
set_option linter.unusedSimpArgs false
set_option maxHeartbeats 4000000 in
set_option maxRecDepth 100000 in
theorem rgraunkeSpec_calls (l : List Ins) (lo un : Int) (ha : RAsmOk ref16Text l lo un) (n : Nat) (w : World) (n1 : 1 ≤ n) (n64 : n ≤ 64) :
    Calls Tryz.prog 27 #[.int .i64 (n : Int)] w fun e w' => ∃ v, e = .returned (.tuple #[v, .bool true]) ∧ Below w.heap.size w w' ∧ SpecIs w.heap.size w' v l lo un [1, ((n + 1 : Nat) : Int)] (((List.replicate (n + 2) 0).set 0 (2 * (n : Int))).set (n + 1) 1) 0 (List.replicate n 0) := by
  have HA := Aside0.mk ha
  have e0 : decide ((n : Int) < 1) = false := decide_eq_false (by omega)
  have e1 : decide (64 < (n : Int)) = false := decide_eq_false (by omega)
  obtain ⟨q, hq⟩ : ∃ q : Nat, q = n + 1 := ⟨_, rfl⟩
  obtain ⟨k, hk⟩ : ∃ k : Nat, k = n + 2 := ⟨_, rfl⟩
  rw [← hk, ← hq]
  have hw1 : IntKind.i64.wrap ((n : Int) + 1) = (q : Int) := wrap_nat _ q (by omega) (by omega)
  have hw2 : IntKind.i64.wrap ((n : Int) + 2) = (k : Int) := wrap_nat _ k (by omega) (by omega)
  have hw3 : IntKind.i64.wrap (2 * (n : Int)) = 2 * (n : Int) := (wrap_nat _ (2 * n) (by omega) (by omega)).trans (by omega)
  have MI := Aside0.mk (fun W : World => run_make1 (P := Tryz.prog) 33 22 (.int .u32 0) 4 Tryz.underlying33 (by kernel_rfl) rfl (by decide) k (by omega) W)
  have MR := Aside0.mk (fun W : World => run_make1 (P := Tryz.prog) 33 22 (.int .u32 0) 4 Tryz.underlying33 (by kernel_rfl) rfl (by decide) n (by omega) W)
  have WD := wideF
  clear ha
  have HK := Aside0.mk (⟨hk, hq, n64⟩ : k = n + 2 ∧ q = n + 1 ∧ n ≤ 64)
  clear n1 hk hq
  go_enter Tryz.func27, Tryz.ntmps27
  go_wp2_with fail
  have HJ := Aside0.mk (show DJ w (.cells zero114 35) (w.alloc (.cells zero114 35)).drew from ⟨below_drew (below_alloc (Below.refl w.heap.size w) _), blk_new w _⟩)

  obtain ⟨ds, hds⟩ : ∃ ds : List Des, ds = [(fun _ => .int .i64 (n : Int), []), (fun _ => .int .i64 (q : Int), []), (fun gs => .slice (some ⟨(gs.getD 0 0), 0, none⟩) 2 2, [.cells #[.int .i64 1, .int .i64 (q : Int)] 3 (0, 0)]), (fun _ => .int .i64 (n : Int), []), (fun _ => .int .i64 (k : Int), []), (fun gs => .slice (some ⟨(gs.getD 0 0), 0, none⟩) k k, [.cells (zeros k (.int .u32 0)) 22 (0, 0)]), (fun _ => .int .i64 (n : Int), []), (fun gs => .slice (some ⟨(gs.getD 0 0), 0, none⟩) n n, [.cells (zeros n (.int .u32 0)) 22 (0, 0)]), (fun gs => .agg #[.slice none 0 0, .int .i64 0, .int .i64 0, .slice (some ⟨(gs.getD 0 0), 0, none⟩) 2 2, .slice (some ⟨(gs.getD 1 0), 0, none⟩) k k, .int .i64 0, .slice (some ⟨(gs.getD 2 0), 0, none⟩) n n], [.cells #[.int .i64 1, .int .i64 (q : Int)] 3 (0, 0), .cells (zeros k (.int .u32 0)) 22 (0, 0), .cells (zeros n (.int .u32 0)) 22 (0, 0)]), (fun gs => .pointer (some ⟨(gs.getD 0 0), 0, none⟩), [.cells zero114 35 (0, 0)])] := ⟨_, rfl⟩
  refine region_made (w := w) (by kernel_rfl) (k := 10) rfl (.cells zero114 35 (0, 0)) ds (by kernel_rfl) (by kernel_rfl) rfl rfl HJ.out ?ob ?cont
  case ob =>
    refine obL_gen (fun QQ => ?_)
    rename_i aa1
    clear aa1 HA HJ e0 e1 HK WD
    refine obL_cons ?_ ?_
    · refine ob_val rfl (by rw [hds]; rfl) (fun a' w' hs => ?_)
      have e0 := hs.own 0 (by kernel_rfl) (v := .int .i64 (n : Int)) rfl
      clear hs hds
      go_simp
    refine obL_cons ?_ ?_
    · refine ob_val rfl (by rw [hds]; rfl) (fun a' w' hs => ?_)
      have e15 := hs.val 0 15 (by kernel_rfl) (by kernel_rfl) (v := .int .i64 (n : Int)) (by rw [hds]; rfl)
      clear hs hds
      go_simp
    refine obL_cons ?_ ?_
    · refine ob_make rfl (by rw [hds]; rfl) (fun a' w' hs => ?_)
      have e16 := hs.val 1 16 (by kernel_rfl) (by kernel_rfl) (v := .int .i64 (q : Int)) (by rw [hds]; rfl)
      clear hs hds
      go_simp
    refine obL_cons ?_ ?_
    · refine ob_val rfl (by rw [hds]; rfl) (fun a' w' hs => ?_)
      have e0 := hs.own 0 (by kernel_rfl) (v := .int .i64 (n : Int)) rfl
      clear hs hds
      go_simp
    refine obL_cons ?_ ?_
    · refine ob_val rfl (by rw [hds]; rfl) (fun a' w' hs => ?_)
      have e18 := hs.val 3 18 (by kernel_rfl) (by kernel_rfl) (v := .int .i64 (n : Int)) (by rw [hds]; rfl)
      clear hs hds
      go_simp
    refine obL_cons ?_ ?_
    · refine ob_make rfl (by rw [hds]; rfl) (fun a' w' hs => ?_)
      have e19 := hs.val 4 19 (by kernel_rfl) (by kernel_rfl) (v := .int .i64 (k : Int)) (by rw [hds]; rfl)
      clear hs hds
      have hmk := MI.out w'; go_simp
    refine obL_cons ?_ ?_
    · refine ob_val rfl (by rw [hds]; rfl) (fun a' w' hs => ?_)
      have e0 := hs.own 0 (by kernel_rfl) (v := .int .i64 (n : Int)) rfl
      clear hs hds
      go_simp
    refine obL_cons ?_ ?_
    · refine ob_make rfl (by rw [hds]; rfl) (fun a' w' hs => ?_)
      have e21 := hs.val 6 21 (by kernel_rfl) (by kernel_rfl) (v := .int .i64 (n : Int)) (by rw [hds]; rfl)
      clear hs hds
      have hmk := MR.out w'; go_simp
    refine obL_cons ?_ ?_
    · refine ob_mix rfl (by rw [hds]; rfl) (fun a' w' hs => ?_)
      obtain ⟨g17, e17, b17⟩ := hs.des 2 17 (by kernel_rfl) (by kernel_rfl) (by rw [hds]; rfl)
      obtain ⟨g20, e20, b20⟩ := hs.des 5 20 (by kernel_rfl) (by kernel_rfl) (by rw [hds]; rfl)
      obtain ⟨g22, e22, b22⟩ := hs.des 7 22 (by kernel_rfl) (by kernel_rfl) (by rw [hds]; rfl)
      clear hs hds
      obtain ⟨c17, rfl, h17, l17⟩ := b17.one
      obtain ⟨c20, rfl, h20, l20⟩ := b20.one
      obtain ⟨c22, rfl, h22, l22⟩ := b22.one
      refine ⟨[c17, c20, c22], ?_, Blks.mk3 h17 l17 h20 l20 h22 l22⟩
      dsimp only [List.getD_cons_zero, List.getD_cons_succ] at *
      go_simp
    refine obL_cons ?_ obL_nil
    · refine ob_make rfl (by rw [hds]; rfl) (fun a' w' hs => ?_)
      clear hs hds
      kernel_rfl
  case cont =>
    intro vs wf hJ hv
    generalize hA : putV _ _ 0 vs = A
    have q0 := hv.val 0 (.int .i64 (n : Int)) (by decide) (by rw [hds]; rfl)
    have q1 := hv.val 1 (.int .i64 (q : Int)) (by decide) (by rw [hds]; rfl)
    obtain ⟨x2, q2, F2, G2⟩ := hv.one 2 (fun gs => .slice (some ⟨(gs.getD 0 0), 0, none⟩) 2 2) (.cells #[.int .i64 1, .int .i64 (q : Int)] 3 (0, 0)) (by decide) (by rw [hds]; rfl)
    have q3 := hv.val 3 (.int .i64 (n : Int)) (by decide) (by rw [hds]; rfl)
    have q4 := hv.val 4 (.int .i64 (k : Int)) (by decide) (by rw [hds]; rfl)
    obtain ⟨x5, q5, F5, G5⟩ := hv.one 5 (fun gs => .slice (some ⟨(gs.getD 0 0), 0, none⟩) k k) (.cells (zeros k (.int .u32 0)) 22 (0, 0)) (by decide) (by rw [hds]; rfl)
    have q6 := hv.val 6 (.int .i64 (n : Int)) (by decide) (by rw [hds]; rfl)
    obtain ⟨x7, q7, F7, G7⟩ := hv.one 7 (fun gs => .slice (some ⟨(gs.getD 0 0), 0, none⟩) n n) (.cells (zeros n (.int .u32 0)) 22 (0, 0)) (by decide) (by rw [hds]; rfl)
    obtain ⟨g_s, g_i, g_r, q8, ⟨F_s, G_s⟩, ⟨F_i, G_i⟩, F_r, G_r⟩ := hv.three 8 (fun gs => .agg #[.slice none 0 0, .int .i64 0, .int .i64 0, .slice (some ⟨(gs.getD 0 0), 0, none⟩) 2 2, .slice (some ⟨(gs.getD 1 0), 0, none⟩) k k, .int .i64 0, .slice (some ⟨(gs.getD 2 0), 0, none⟩) n n]) (.cells #[.int .i64 1, .int .i64 (q : Int)] 3 (0, 0)) (.cells (zeros k (.int .u32 0)) 22 (0, 0)) (.cells (zeros n (.int .u32 0)) 22 (0, 0)) (by decide) (by rw [hds]; rfl)
    obtain ⟨g_x, q9, F9, G9⟩ := hv.one 9 (fun gs => .pointer (some ⟨(gs.getD 0 0), 0, none⟩)) (.cells zero114 35 (0, 0)) (by decide) (by rw [hds]; rfl)
    clear hv hds
    simp only [List.toList_toArray, List.take_succ_cons, List.take_zero, putV, Act.put, List.setIfInBounds_toArray, List.set_cons_zero, List.set_cons_succ, Nat.reduceAdd, List.getD_cons_zero, List.getD_cons_succ, q0, q1, q2, q3, q4, q5, q6, q7, q8, q9] at hA
    subst hA
    clear q0 q1 q2 q3 q4 q5 q6 q7 q8 q9 F2 G2 F5 G5 F7 G7
    refine wp_store_row 35 (.tmp 4) (.tmp 23) rfl g_x #[.slice none 0 0, .int .i64 0, .int .i64 0, .slice (some ⟨g_s, 0, none⟩) 2 2, .slice (some ⟨g_i, 0, none⟩) k k, .int .i64 0, .slice (some ⟨g_r, 0, none⟩) n n] rfl rfl 35 _ F9 (by kernel_rfl) rfl (by kernel_rfl) ?_
    have ne0 : w.heap.size ≠ g_x := Nat.ne_of_lt G9
    have ne_s : g_s ≠ g_x := blk_ne F_s F9 (by decide)
    have n_s := Aside0.mk ((setRow_other wf g_x _ #[.slice none 0 0, .int .i64 0, .int .i64 0, .slice (some ⟨g_s, 0, none⟩) 2 2, .slice (some ⟨g_i, 0, none⟩) k k, .int .i64 0, .slice (some ⟨g_r, 0, none⟩) n n] ne_s).trans F_s)
    have ne_i : g_i ≠ g_x := blk_ne F_i F9 (by decide)
    have n_i := Aside0.mk ((setRow_other wf g_x _ #[.slice none 0 0, .int .i64 0, .int .i64 0, .slice (some ⟨g_s, 0, none⟩) 2 2, .slice (some ⟨g_i, 0, none⟩) k k, .int .i64 0, .slice (some ⟨g_r, 0, none⟩) n n] ne_i).trans F_i)
    have ne_r : g_r ≠ g_x := blk_ne F_r F9 (by decide)
    have n_r := Aside0.mk ((setRow_other wf g_x _ #[.slice none 0 0, .int .i64 0, .int .i64 0, .slice (some ⟨g_s, 0, none⟩) 2 2, .slice (some ⟨g_i, 0, none⟩) k k, .int .i64 0, .slice (some ⟨g_r, 0, none⟩) n n] ne_r).trans F_r)
    have n_B0 := Aside0.mk (show (wf.setRow g_x #[.slice none 0 0, .int .i64 0, .int .i64 0, .slice (some ⟨g_s, 0, none⟩) 2 2, .slice (some ⟨g_i, 0, none⟩) k k, .int .i64 0, .slice (some ⟨g_r, 0, none⟩) n n]).heap[w.heap.size]? = some (.cells #[.slice none 0 0, .int .i64 0, .int .i64 0, .slice none 0 0, .slice none 0 0, .int .i64 0, .slice none 0 0] 35 (0, 0)) from (setRow_other wf g_x _ #[.slice none 0 0, .int .i64 0, .int .i64 0, .slice (some ⟨g_s, 0, none⟩) 2 2, .slice (some ⟨g_i, 0, none⟩) k k, .int .i64 0, .slice (some ⟨g_r, 0, none⟩) n n] ne0).trans hJ.at_)
    have n_x := Aside0.mk (setRow_heap wf g_x _ #[.slice none 0 0, .int .i64 0, .int .i64 0, .slice (some ⟨g_s, 0, none⟩) 2 2, .slice (some ⟨g_i, 0, none⟩) k k, .int .i64 0, .slice (some ⟨g_r, 0, none⟩) n n] 35 (0, 0) F9)
    have n_HB := Aside0.mk (below_setRow hJ.below (Nat.le_of_lt G9) #[.slice none 0 0, .int .i64 0, .int .i64 0, .slice (some ⟨g_s, 0, none⟩) 2 2, .slice (some ⟨g_i, 0, none⟩) k k, .int .i64 0, .slice (some ⟨g_r, 0, none⟩) n n])
    have L_s := Aside0.mk G_s
    have L_i := Aside0.mk G_i
    have L_r := Aside0.mk G_r
    have L_x := Aside0.mk G9
    clear ne_s ne_i ne_r F_s F_i F_r F9 hJ G_s G_i G_r G9
    generalize wf.setRow g_x #[.slice none 0 0, .int .i64 0, .int .i64 0, .slice (some ⟨g_s, 0, none⟩) 2 2, .slice (some ⟨g_i, 0, none⟩) k k, .int .i64 0, .slice (some ⟨g_r, 0, none⟩) n n] = wg at n_B0 n_x n_s n_i n_r n_HB ⊢
    change Exit.then _ _ _ _ _
    have x4 := (blk_cell n_x.out 4).trans rfl
    have zk : ∀ j : Nat, j < k → (zeros k (.int .u32 0))[j]? = some (.int .u32 0) := fun j hj => by simp [zeros, hj]
    have i0 := (blk_cell n_i.out 0).trans (zk 0 (by have := HK.out; omega))
    have iq := (blk_cell n_i.out q).trans (zk q (by have := HK.out; omega))
    have f0 := blk_frozen n_i.out 0
    have fq := blk_frozen n_i.out q
    have hb0 : decide ((0 : Int) < (k : Int)) = true := decide_eq_true (by have := HK.out; omega)
    have hb1 : decide ((q : Int) < (k : Int)) = true := decide_eq_true (by have := HK.out; omega)
    have hb2 : 0 < k := by have := HK.out; omega
    have hb3 : q < k := by have := HK.out; omega
    have hb4 : (q : Int) < (k : Int) := by omega
    have hb5 : (0 : Int) < (k : Int) := by omega
    have hu : IntKind.u32.wrap (2 * (n : Int)) = 2 * (n : Int) := IntWalk.u32_in _ (by have := HK.out; omega)
    have hz1 : ¬ 0 = q := by have := HK.out; omega
    have hz2 : ¬ q = 0 := by have := HK.out; omega
    have hgx : ¬ g_i = g_x := fun e => blk_ne n_i.out n_x.out (by decide) e
    have hgx2 : ¬ g_x = g_i := fun e => hgx e.symm
    have NIR := Aside0.mk (show ¬ g_r = g_i from fun e => by
      have h1 := n_r.out
      rw [e, n_i.out] at h1
      have h3 := congrArg (fun o => match o with | some (Obj.cells c _ _) => c.size | _ => 0) h1
      simp [zeros] at h3
      have h4 := HK.out
      omega)
    go_wp2_with fail
    have M1 : Mod (fun y => y = g_i) wg ((wg.setCell ⟨g_i, 0, none⟩ (.int .u32 (2 * (n : Int)))).setCell ⟨g_i, q, none⟩ (.int .u32 1)) := Mod.setCell (S := fun y => y = g_i) (Mod.setCell (S := fun y => y = g_i) (Mod.refl _ wg) (p := ⟨g_i, 0, none⟩) rfl _) (p := ⟨g_i, q, none⟩) rfl _
    have o_i := Aside0.mk (show ((wg.setCell ⟨g_i, 0, none⟩ (.int .u32 (2 * (n : Int)))).setCell ⟨g_i, q, none⟩ (.int .u32 1)).heap[g_i]? = some (.cells ((((List.replicate k 0).set 0 (2 * (n : Int))).set q 1).map (Value.int .u32)).toArray 22 (0, 0)) from (blk_set (blk_set n_i.out 0 _) q _).trans (by rw [zeros_row, row_set, row_set]))
    clear x4 zk i0 iq f0 fq hb0 hb1 hb2 hb3 hb4 hb5 hu hz1 hz2 hgx hgx2
    have T1 : ∀ q, q = g_i → ∃ c t, wg.heap[q]? = some (.cells c t (0, 0)) ∧ t = 22 := fun q hq => ⟨_, _, hq ▸ n_i.out, rfl⟩
    have o_B0 := Aside0.mk (M1.blkT n_B0.out (fun q hq => by obtain ⟨c, t, h1, rfl⟩ := T1 q hq; exact ⟨c, _, h1, by decide⟩))
    have o_x := Aside0.mk (M1.blkT n_x.out (fun q hq => by obtain ⟨c, t, h1, rfl⟩ := T1 q hq; exact ⟨c, _, h1, by decide⟩))
    have o_s := Aside0.mk (M1.blkT n_s.out (fun q hq => by obtain ⟨c, t, h1, rfl⟩ := T1 q hq; exact ⟨c, _, h1, by decide⟩))
    have o_r := Aside0.mk (M1.blk n_r.out NIR.out)
    have o_HB := Aside0.mk (below_mod n_HB.out (Nat.le_refl _) M1 (fun q hq => hq ▸ Nat.le_of_lt L_i.out))
    clear M1 T1 n_B0 n_x n_s n_r n_i n_HB NIR
    have n_B0 := o_B0
    have n_x := o_x
    have n_s := o_s
    have n_r := o_r
    have n_i := o_i
    have n_HB := o_HB
    clear o_B0 o_x o_s o_r o_i o_HB
    generalize (wg.setCell ⟨g_i, 0, none⟩ (.int .u32 (2 * (n : Int)))).setCell ⟨g_i, q, none⟩ (.int .u32 1) = wh at n_B0 n_x n_s n_i n_r n_HB ⊢
    refine (ref16_text _).mono ?_
    rintro e w5 ⟨rfl, rfl⟩

    go_wp2_with (first | (go_at_call 56; refine (ref16_text _).mono ?_; rintro e w5 ⟨rfl, rfl⟩) | (go_at_call 53; refine (HA.out _).mono ?_; rintro e w6 ⟨A, c, rfl, hR, hb⟩; have HV := Aside0.mk (Kd.R_alloc (Kd.R_lower hR n_HB.out.size) (.cells #[.slice A l.length c, .int .i64 lo, .int .i64 un] 31)); have m0 := Aside0.mk (blk_below n_B0.out hb); have m_x := Aside0.mk (blk_below n_x.out hb); have k0 := Aside0.mk (blk_alloc m0.out (.cells #[.slice A l.length c, .int .i64 lo, .int .i64 un] 31)); have k_x := Aside0.mk (blk_alloc m_x.out (.cells #[.slice A l.length c, .int .i64 lo, .int .i64 un] 31)); have k_s := Aside0.mk (blk_alloc (blk_below n_s.out hb) (.cells #[.slice A l.length c, .int .i64 lo, .int .i64 un] 31)); have k_i := Aside0.mk (blk_alloc (blk_below n_i.out hb) (.cells #[.slice A l.length c, .int .i64 lo, .int .i64 un] 31)); have k_r := Aside0.mk (blk_alloc (blk_below n_r.out hb) (.cells #[.slice A l.length c, .int .i64 lo, .int .i64 un] 31)); have k_HB := Aside0.mk (below_alloc (below_step n_HB.out hb) (.cells #[.slice A l.length c, .int .i64 lo, .int .i64 un] 31)); clear hb hR n_B0 n_x n_s n_i n_r n_HB HA; obtain ⟨d0, f0, d1, f1, d2, f2, d3, f3, d4, f4, d5, f5, d6, f6⟩ := both7 k_x.out; obtain ⟨p0, u0, p1, u1, p2, u2, p3, u3, p4, u4, p5, u5, p6, u6⟩ := both7 k0.out; have ne0 : w.heap.size ≠ g_x := Nat.ne_of_lt L_x.out; have ne1 : g_x ≠ w.heap.size := fun e => ne0 e.symm; have ne2 : g_x ≠ w6.heap.size := Nat.ne_of_lt (blk_lt m_x.out); have ne3 : w6.heap.size ≠ g_x := fun e => ne2 e.symm; have ne4 : w.heap.size ≠ w6.heap.size := Nat.ne_of_lt (blk_lt m0.out); have ne5 : w6.heap.size ≠ w.heap.size := fun e => ne4 e.symm))
    clear d0 f0 p0 u0 d1 f1 p1 u1 d2 f2 p2 u2 d3 f3 p3 u3 d4 f4 p4 u4 d5 f5 p5 u5 d6 f6 p6 u6
    obtain ⟨WF, hWF, h1, h2, h3⟩ := rspec_end (szs := [1, (q : Int)]) (xs := ((List.replicate k 0).set 0 (2 * (n : Int))).set q 1) (r7 := List.replicate n 0) (m := 0) (lo := lo) (un := un) k0.out k_x.out L_x.out k_HB.out k_s.out k_i.out (by simpa [zeros] using k_r.out) (Nat.le_of_lt L_s.out) (Nat.le_of_lt L_i.out) (Nat.le_of_lt L_r.out) HV.out (by simp) (by have := HK.out; simp; omega) (by simp; omega)
    simp only [List.length_replicate, List.length_set] at hWF h2 h3
    change bodyPost _ _ _ _ _ (set7 (set3w (w6.alloc (.cells #[.slice A l.length c, .int .i64 lo, .int .i64 un] 31)) g_x _ _ _) w.heap.size _ _ _ _ _ _ _)
    have hWF2 : WF = set7 (set3w (w6.alloc (.cells #[.slice A l.length c, .int .i64 lo, .int .i64 un] 31)) g_x (.slice A l.length c) (.int .i64 lo) (.int .i64 un)) w.heap.size (.slice A l.length c) (.int .i64 lo) (.int .i64 un) (.slice (some ⟨g_s, 0, none⟩) 2 2) (.slice (some ⟨g_i, 0, none⟩) k k) (.int .i64 0) (.slice (some ⟨g_r, 0, none⟩) n n) := hWF
    rw [← hWF2]
    clear hWF hWF2
    obtain ⟨r0, r1, r2, r3, r4, r5, r6⟩ := cells7 h2
    exact bodyPost_ret (v := .tuple #[.agg #[.slice A l.length c, .int .i64 lo, .int .i64 un, .slice (some ⟨g_s, 0, none⟩) 2 2, .slice (some ⟨g_i, 0, none⟩) k k, .int .i64 0, .slice (some ⟨g_r, 0, none⟩) n n], .bool true]) (by simp [results, Tryz.results27, go_sem, *]) rfl ⟨_, rfl, h1, h3⟩
end Go.Proofs.YtjopodnlffaogaaGreatDoor.Tp
end
section
namespace Go.Proofs.YtjopodnlffaogaaGreatDoor.Tp
open Go.RowKit Go.Proofs.YtjopodnlffaogaaGreatDoorW.PrintWords Go.Proofs.YtjopodnlffaogaaGreatDoorW.PrintLast Go.Proofs.YtjopodnlffaogaaGreatDoorW.PrintMore
attribute [local go_sem] max2_int min2_int max_two min_two max_three min_three max_four min_four
set_option linter.unusedVariables false
set_option linter.unusedSimpArgs false
set_option maxHeartbeats 4000000 in
set_option maxRecDepth 100000 in
theorem rticketSpec_calls (l : List Ins) (lo un : Int) (ha : RAsmOk ref14Text l lo un) (n s : Nat) (w : World) (n1 : 1 ≤ n) (n64 : n ≤ 64) :
    Calls Tryz.prog 25 #[.int .i64 (n : Int), .int .u32 (s : Int)] w fun e w' => ∃ v, e = .returned (.tuple #[v, .bool true]) ∧ Below w.heap.size w w' ∧ SpecIs w.heap.size w' v l lo un [1, 1] [(s : Int), (s : Int)] 0 (List.replicate n 0) := by
  have HA := Aside0.mk ha
  have e0 : decide ((n : Int) < 1) = false := decide_eq_false (by omega)
  have e1 : decide (64 < (n : Int)) = false := decide_eq_false (by omega)
  have hmk := fun W : World => run_make1 (P := Tryz.prog) 33 22 (.int .u32 0) 4 Tryz.underlying33 (by kernel_rfl) rfl (by decide) n (by omega) W
  clear ha n1
  go_enter Tryz.func25, Tryz.ntmps25
  go_wp2_with fail
  have E := Aside0.mk (show REnv _ w zero114 _ from (((REnv.mk (W := w.alloc (.cells zero114 35)) (os := []) (blk_new w _) (below_alloc (Below.refl w.heap.size w) _) (by intro p hp; cases hp)).alloc (.cells #[.int .i64 1, .int .i64 1] 3)).alloc (.cells #[.int .u32 (s : Int), .int .u32 (s : Int)] 22)).alloc (.cells (zeros n (.int .u32 0)) 22))
  have E2 := Aside0.mk (E.out.alloc (.cells #[.slice none 0 0, .int .i64 0, .int .i64 0, .slice (some ⟨w.heap.size + 1, 0, none⟩) 2 2, .slice (some ⟨w.heap.size + 1 + 1, 0, none⟩) 2 2, .int .i64 0, .slice (some ⟨w.heap.size + 1 + 1 + 1, 0, none⟩) n n] 35))
  have F_x := Aside0.mk (E2.out.at_ _ (List.mem_cons_self)).1
  have G_x := Aside0.mk (E2.out.at_ _ (List.mem_cons_self)).2
  have F_r := Aside0.mk (E2.out.at_ _ (List.mem_cons_of_mem _ List.mem_cons_self)).1
  have G_r := Aside0.mk (E2.out.at_ _ (List.mem_cons_of_mem _ List.mem_cons_self)).2
  have F_i := Aside0.mk (E2.out.at_ _ (List.mem_cons_of_mem _ (List.mem_cons_of_mem _ List.mem_cons_self))).1
  have G_i := Aside0.mk (E2.out.at_ _ (List.mem_cons_of_mem _ (List.mem_cons_of_mem _ List.mem_cons_self))).2
  have F_s := Aside0.mk (E2.out.at_ _ (List.mem_cons_of_mem _ (List.mem_cons_of_mem _ (List.mem_cons_of_mem _ List.mem_cons_self)))).1
  have G_s := Aside0.mk (E2.out.at_ _ (List.mem_cons_of_mem _ (List.mem_cons_of_mem _ (List.mem_cons_of_mem _ List.mem_cons_self)))).2
  have B0 := Aside0.mk E2.out.b0
  have HB := Aside0.mk E2.out.hb
  clear E E2
  simp only [World.size_alloc, zero114] at F_x G_x F_r G_r F_i G_i F_s G_s B0 HB
  clear hmk
  generalize ((((w.alloc (.cells #[.slice none 0 0, .int .i64 0, .int .i64 0, .slice none 0 0, .slice none 0 0, .int .i64 0, .slice none 0 0] 35)).alloc (.cells #[.int .i64 1, .int .i64 1] 3)).alloc (.cells #[.int .u32 (s : Int), .int .u32 (s : Int)] 22)).alloc (.cells (zeros n (.int .u32 0)) 22)).alloc (.cells #[.slice none 0 0, .int .i64 0, .int .i64 0, .slice (some ⟨w.heap.size + 1, 0, none⟩) 2 2, .slice (some ⟨w.heap.size + 1 + 1, 0, none⟩) 2 2, .int .i64 0, .slice (some ⟨w.heap.size + 1 + 1 + 1, 0, none⟩) n n] 35) = wh at F_x F_r F_i F_s B0 HB ⊢
  generalize w.heap.size + 1 + 1 + 1 + 1 = g_x at F_x G_x ⊢
  generalize w.heap.size + 1 + 1 + 1 = g_r at F_x F_r G_r ⊢
  generalize w.heap.size + 1 + 1 = g_i at F_x F_i G_i ⊢
  generalize w.heap.size + 1 = g_s at F_x F_s G_s ⊢
  refine (ref14_text _).mono ?_
  rintro e w5 ⟨rfl, rfl⟩
  go_wp2_with (go_at_call 53; refine (HA.out _).mono ?_; rintro e w6 ⟨A, c, rfl, hR, hb⟩; have HV := Aside0.mk (Kd.R_alloc (Kd.R_lower hR HB.out.size) (.cells #[.slice A l.length c, .int .i64 lo, .int .i64 un] 31)); have m0 := Aside0.mk (blk_alloc (blk_below B0.out hb) (.cells #[.slice A l.length c, .int .i64 lo, .int .i64 un] 31)); have m_x := Aside0.mk (blk_alloc (blk_below F_x.out hb) (.cells #[.slice A l.length c, .int .i64 lo, .int .i64 un] 31)); have m_s := Aside0.mk (blk_alloc (blk_below F_s.out hb) (.cells #[.slice A l.length c, .int .i64 lo, .int .i64 un] 31)); have m_i := Aside0.mk (blk_alloc (blk_below F_i.out hb) (.cells #[.slice A l.length c, .int .i64 lo, .int .i64 un] 31)); have m_r := Aside0.mk (blk_alloc (blk_below F_r.out hb) (.cells #[.slice A l.length c, .int .i64 lo, .int .i64 un] 31)); have m_HB := Aside0.mk (below_alloc (below_step HB.out hb) (.cells #[.slice A l.length c, .int .i64 lo, .int .i64 un] 31)); have ne2 : g_x ≠ w6.heap.size := Nat.ne_of_lt (blk_lt (blk_below F_x.out hb)); have ne3 : w6.heap.size ≠ g_x := fun e => ne2 e.symm; have ne4 : w.heap.size ≠ w6.heap.size := Nat.ne_of_lt (blk_lt (blk_below B0.out hb)); have ne5 : w6.heap.size ≠ w.heap.size := fun e => ne4 e.symm; clear hb hR B0 F_x F_s F_i F_r HB HA; obtain ⟨d0, f0, d1, f1, d2, f2, d3, f3, d4, f4, d5, f5, d6, f6⟩ := both7 m_x.out; obtain ⟨p0, q0, p1, q1, p2, q2, p3, q3, p4, q4, p5, q5, p6, q6⟩ := both7 m0.out; have ne0 : w.heap.size ≠ g_x := Nat.ne_of_lt G_x.out; have ne1 : g_x ≠ w.heap.size := fun e => ne0 e.symm)
  clear d0 f0 p0 q0 d1 f1 p1 q1 d2 f2 p2 q2 d3 f3 p3 q3 d4 f4 p4 q4 d5 f5 p5 q5 d6 f6 p6 q6
  obtain ⟨WF, hWF, h1, h2, h3⟩ := rspec_end (szs := [1, 1]) (xs := [(s : Int), (s : Int)]) (r7 := List.replicate n 0) (m := 0) (lo := lo) (un := un) m0.out m_x.out G_x.out m_HB.out m_s.out m_i.out (by simpa [zeros] using m_r.out) (Nat.le_of_lt G_s.out) (Nat.le_of_lt G_i.out) (Nat.le_of_lt G_r.out) HV.out (by simp) (by simp) (by simp; omega)
  simp only [List.length_replicate] at hWF h2 h3
  change bodyPost _ _ _ _ _ (set7 (set3w (w6.alloc (.cells #[.slice A l.length c, .int .i64 lo, .int .i64 un] 31)) g_x _ _ _) w.heap.size _ _ _ _ _ _ _)
  have hWF2 : WF = set7 (set3w (w6.alloc (.cells #[.slice A l.length c, .int .i64 lo, .int .i64 un] 31)) g_x (.slice A l.length c) (.int .i64 lo) (.int .i64 un)) w.heap.size (.slice A l.length c) (.int .i64 lo) (.int .i64 un) (.slice (some ⟨g_s, 0, none⟩) 2 2) (.slice (some ⟨g_i, 0, none⟩) 2 2) (.int .i64 0) (.slice (some ⟨g_r, 0, none⟩) n n) := hWF
  rw [← hWF2]
  clear hWF hWF2
  obtain ⟨r0, r1, r2, r3, r4, r5, r6⟩ := cells7 h2
  exact bodyPost_ret (v := .tuple #[.agg #[.slice A l.length c, .int .i64 lo, .int .i64 un, .slice (some ⟨g_s, 0, none⟩) 2 2, .slice (some ⟨g_i, 0, none⟩) 2 2, .int .i64 0, .slice (some ⟨g_r, 0, none⟩) n n], .bool true]) (by simp [results, Tryz.results25, go_sem, *]) rfl ⟨_, rfl, h1, h3⟩
end Go.Proofs.YtjopodnlffaogaaGreatDoor.Tp
end
section
namespace Go.Proofs.YtjopodnlffaogaaGreatDoor.Tp
open Go.RowKit Go.Proofs.YtjopodnlffaogaaGreatDoorW.PrintWords Go.Proofs.YtjopodnlffaogaaGreatDoorW.PrintLast Go.Proofs.YtjopodnlffaogaaGreatDoorW.PrintMore
attribute [local go_sem] max2_int min2_int max_two min_two max_three min_three max_four min_four
set_option linter.unusedVariables false
set_option linter.unusedSimpArgs false
set_option maxHeartbeats 4000000 in
set_option maxRecDepth 100000 in
theorem rclhSpec_calls (l : List Ins) (lo un : Int) (ha : RAsmOk ref17Text l lo un) (n : Nat) (w : World) (n1 : 1 ≤ n) (n64 : n ≤ 64) :
    Calls Tryz.prog 28 #[.int .i64 (n : Int)] w fun e w' => ∃ v, e = .returned (.tuple #[v, .bool true]) ∧ Below w.heap.size w w' ∧ SpecIs w.heap.size w' v l lo un [1, ((n + 1 : Nat) : Int)] (List.replicate (n + 2) 0) 0 (upTo n) := by
  have HA := Aside0.mk ha
  have e0 : decide ((n : Int) < 1) = false := decide_eq_false (by omega)
  have e1 : decide (64 < (n : Int)) = false := decide_eq_false (by omega)
  obtain ⟨q, hq⟩ : ∃ q : Nat, q = n + 1 := ⟨_, rfl⟩
  obtain ⟨k, hk⟩ : ∃ k : Nat, k = n + 2 := ⟨_, rfl⟩
  rw [← hk, ← hq]
  have hw1 : IntKind.i64.wrap ((n : Int) + 1) = (q : Int) := wrap_nat _ q (by omega) (by omega)
  have hw2 : IntKind.i64.wrap ((n : Int) + 2) = (k : Int) := wrap_nat _ k (by omega) (by omega)
  have hw3 : wrap64 ((n : Int) + 1) = (q : Int) := by unfold wrap64; omega
  have hw4 : wrap64 ((n : Int) + 2) = (k : Int) := by unfold wrap64; omega
  have hmk := fun W : World => run_make1 (P := Tryz.prog) 33 22 (.int .u32 0) 4 Tryz.underlying33 (by kernel_rfl) rfl (by decide) k (by omega) W
  have HKN := Aside0.mk (⟨hk, hq, n64⟩ : k = n + 2 ∧ q = n + 1 ∧ n ≤ 64)
  clear ha n1 hk hq
  go_enter Tryz.func28, Tryz.ntmps28
  go_wp2_with fail
  have E := Aside0.mk (show REnv _ w zero114 _ from ((REnv.mk (W := w.alloc (.cells zero114 35)) (os := []) (blk_new w _) (below_alloc (Below.refl w.heap.size w) _) (by intro p hp; cases hp)).alloc (.cells #[.int .i64 1, .int .i64 (q : Int)] 3)).alloc (.cells (zeros k (.int .u32 0)) 22))
  have E2 := Aside0.mk (E.out.alloc (.cells #[.slice none 0 0, .int .i64 0, .int .i64 0, .slice (some ⟨w.heap.size + 1, 0, none⟩) 2 2, .slice (some ⟨w.heap.size + 1 + 1, 0, none⟩) k k, .int .i64 0, .slice none 0 0] 35))
  have F_x := Aside0.mk (E2.out.at_ _ (List.mem_cons_self)).1
  have G_x := Aside0.mk (E2.out.at_ _ (List.mem_cons_self)).2
  have F_i := Aside0.mk (E2.out.at_ _ (List.mem_cons_of_mem _ List.mem_cons_self)).1
  have G_i := Aside0.mk (E2.out.at_ _ (List.mem_cons_of_mem _ List.mem_cons_self)).2
  have G_s := Aside0.mk (E2.out.at_ _ (List.mem_cons_of_mem _ (List.mem_cons_of_mem _ List.mem_cons_self))).2
  have F_s := Aside0.mk (E2.out.at_ _ (List.mem_cons_of_mem _ (List.mem_cons_of_mem _ List.mem_cons_self))).1
  have B0 := Aside0.mk E2.out.b0
  have HB := Aside0.mk E2.out.hb
  clear E E2
  simp only [World.size_alloc, zero114] at F_x G_x F_i G_i F_s G_s B0 HB
  clear hmk
  generalize (((w.alloc (.cells #[.slice none 0 0, .int .i64 0, .int .i64 0, .slice none 0 0, .slice none 0 0, .int .i64 0, .slice none 0 0] 35)).alloc (.cells #[.int .i64 1, .int .i64 (q : Int)] 3)).alloc (.cells (zeros k (.int .u32 0)) 22)).alloc (.cells #[.slice none 0 0, .int .i64 0, .int .i64 0, .slice (some ⟨w.heap.size + 1, 0, none⟩) 2 2, .slice (some ⟨w.heap.size + 1 + 1, 0, none⟩) k k, .int .i64 0, .slice none 0 0] 35) = wh at F_x F_i F_s B0 HB ⊢
  generalize w.heap.size + 1 + 1 + 1 = g_x at F_x G_x ⊢
  generalize w.heap.size + 1 + 1 = g_i at F_x F_i G_i ⊢
  generalize w.heap.size + 1 = g_s at F_x F_s G_s ⊢
  obtain ⟨X, hX⟩ : ∃ X, X = wh.heap.size := ⟨_, rfl⟩
  have HX := Aside0.mk hX
  have GIX := Aside0.mk (show g_i < X by rw [hX]; exact blk_lt F_i.out)
  clear hX
  go_loopw [5] (fun i wr => ∃ (j : Nat) (v : Value), j ≤ n ∧ i = .int .i64 j ∧ Aside0 (X ≤ wr.heap.size) ∧ Aside0 (wr.heap[g_x]? = some (.cells #[.slice none 0 0, .int .i64 0, .int .i64 0, .slice (some ⟨g_s, 0, none⟩) 2 2, .slice (some ⟨g_i, 0, none⟩) k k, .int .i64 0, v] 35 (0, 0))) ∧ Aside0 (wr.heap[w.heap.size]? = some (.cells #[.slice none 0 0, .int .i64 0, .int .i64 0, .slice none 0 0, .slice none 0 0, .int .i64 0, .slice none 0 0] 35 (0, 0))) ∧ Aside0 (wr.heap[g_s]? = some (.cells #[.int .i64 1, .int .i64 (q : Int)] 3 (0, 0))) ∧ Aside0 (wr.heap[g_i]? = some (.cells (zeros k (.int .u32 0)) 22 (0, 0))) ∧ Aside0 (Kd.R (Kd.int .u32) 22 wr w.heap.size (fun q => X ≤ q) v (upTo j)) ∧ Aside0 (Below w.heap.size w wr)) (fun i _ => n - (intOf i).toNat)
  case atStart => exact ⟨0, .slice none 0 0, Nat.zero_le _, rfl, ⟨Nat.le_of_eq HX.out⟩, F_x, B0, F_s, F_i, ⟨Kd.R_nil _ _ _ _ _⟩, HB⟩
  case round =>
    have HW := Aside0.mk HB.out.size
    clear F_x B0 F_s F_i HB HX
    obtain ⟨j, v, hj, rfl, XW, BX, B0, FS, FI, HR, HB⟩ := hrel
    by_cases hlt : j < n
    · have HK := Aside0.mk (⟨hlt, n64⟩ : j < n ∧ n ≤ 64)
      have hT : decide ((j : Int) < (n : Int)) = true := decide_eq_true (by omega)
      have c6 := (blk_cell BX.out 6).trans rfl
      have hu : wrap64 ((j : Int) + 1) = (j : Int) + 1 := by unfold wrap64; omega
      have hu3 : IntKind.u32.wrap ((j : Int) + 1) = (j : Int) + 1 := IntWalk.u32_in _ (by omega)
      go_wp2_with ((with_reducible refine gate_builtin (b := .append) (xs := #[.tmp 29, .tmp 33]) rfl ?_); at_builtin; refine Kd.R_append (Kd.int .u32) (w0 := w) (w.heap.size) rfl (.tmp 29) (.tmp 33) 33 22 (.int .u32 0) 4 rfl Tryz.underlying33 info22 rfl (by decide) (by omega) v (upTo j) ((j : Int) + 1) [.int .u32 ((j : Int) + 1)] (fun q => X ≤ q) (fun _ => False) rfl (by first | (go_simp; done) | (go_simp; rfl)) ?aP (fun _ hk => hk.elim) (fun q hq => Nat.le_trans XW.out hq) ?aO ?aB ?aS ?aL ?_; (case aP => exact rfl); (case aO => exact (by (with_reducible repeat (first | apply Kd.R_alloc | apply Kd.R_drewN)); exact HR.out)); (case aB => exact (by repeat (first | exact HB.out | apply below_alloc | apply pw_below_drewN))); (case aS => exact (by repeat (first | exact (HB.out).size | apply Nat.le_trans (HB.out).size; simp))); (case aL => rw [upTo_length]; have := HK.out; omega); intro v1 w8 ho hb hg hat; have b0 := Aside0.mk (blk_app HR.out hg BX.out (by decide)); have c0 := Aside0.mk (blk_app HR.out hg B0.out (by decide)); have s0 := Aside0.mk (blk_app HR.out hg FS.out (by decide)); have i0 := Aside0.mk (blk_grown FI.out hg (fun e => by have h1 := HR.out.1 g_i e.symm; have h2 := GIX.out; omega)); have sz := Aside0.mk (Nat.le_trans (Nat.le_trans XW.out (show wr.heap.size ≤ _ from by first | exact Nat.le_succ _ | simp)) hg.size); obtain ⟨A1, cap1, hv1, _, _⟩ := Kd.R_reads ho; generalize List.length _ = n1 at hv1; subst hv1; have hr := Aside0.mk ho; have hbb := Aside0.mk hb; clear ho hb hg hat BX B0 FS FI HR HB; have c6 := (blk_cell b0.out 6).trans rfl; have f6 := blk_frozen b0.out 6)
      go_wp2
      go_roundw
      case rel => exact ⟨j + 1, _, by omega, by go_num, ⟨by simpa using sz.out⟩, ⟨(blk_set b0.out 6 _).trans rfl⟩, ⟨blk_far (p := ⟨g_x, 6, none⟩) c0.out (Nat.ne_of_lt G_x.out) _⟩, ⟨blk_far (p := ⟨g_x, 6, none⟩) s0.out (blk_ne s0.out b0.out (by decide)) _⟩, ⟨blk_far (p := ⟨g_x, 6, none⟩) i0.out (blk_ne i0.out b0.out (by decide)) _⟩, ⟨by rw [upTo_succ]; exact Kd.R_set hr.out b0.out (by decide) 6 _⟩, ⟨below_set (j := 6) hbb.out (Nat.le_of_lt G_x.out)⟩⟩
      case measure => simp [intOf]; omega
    · have ej : j = n := by omega
      subst ej
      have hT : decide ((j : Int) < (j : Int)) = false := decide_eq_false (by omega)
      obtain ⟨AR, cR, hv1, _, _⟩ := Kd.R_reads HR.out
      rw [upTo_length] at hv1
      subst hv1
      go_wp2_with (first | (go_at_call 57; refine (ref17_text _).mono ?_; rintro e w5 ⟨rfl, rfl⟩) | (go_at_call 53; refine (HA.out _).mono ?_; rintro e w6 ⟨A, c, rfl, hR, hb⟩; have HV := Aside0.mk (Kd.R_alloc (Kd.R_lower hR HB.out.size) (.cells #[.slice A l.length c, .int .i64 lo, .int .i64 un] 31)); have m0 := Aside0.mk (blk_alloc (blk_below B0.out hb) (.cells #[.slice A l.length c, .int .i64 lo, .int .i64 un] 31)); have m_x := Aside0.mk (blk_alloc (blk_below BX.out hb) (.cells #[.slice A l.length c, .int .i64 lo, .int .i64 un] 31)); have m_s := Aside0.mk (blk_alloc (blk_below FS.out hb) (.cells #[.slice A l.length c, .int .i64 lo, .int .i64 un] 31)); have m_i := Aside0.mk (blk_alloc (blk_below FI.out hb) (.cells #[.slice A l.length c, .int .i64 lo, .int .i64 un] 31)); have m_r := Aside0.mk (Kd.R_alloc (Kd.R_mono (Kd.R_step HR.out (fun k _ hk => hb.block k hk)) (ok' := fun _ => True) (fun _ _ => trivial)) (.cells #[.slice A l.length c, .int .i64 lo, .int .i64 un] 31)); have m_HB := Aside0.mk (below_alloc (below_step HB.out hb) (.cells #[.slice A l.length c, .int .i64 lo, .int .i64 un] 31)); have ne2 : g_x ≠ w6.heap.size := Nat.ne_of_lt (blk_lt (blk_below BX.out hb)); have ne3 : w6.heap.size ≠ g_x := fun e => ne2 e.symm; have ne4 : w.heap.size ≠ w6.heap.size := Nat.ne_of_lt (blk_lt (blk_below B0.out hb)); have ne5 : w6.heap.size ≠ w.heap.size := fun e => ne4 e.symm; clear hb hR B0 BX FS FI HR HB HA; obtain ⟨d0, f0, d1, f1, d2, f2, d3, f3, d4, f4, d5, f5, d6, f6⟩ := both7 m_x.out; obtain ⟨p0, q0, p1, q1, p2, q2, p3, q3, p4, q4, p5, q5, p6, q6⟩ := both7 m0.out; have ne0 : w.heap.size ≠ g_x := Nat.ne_of_lt G_x.out; have ne1 : g_x ≠ w.heap.size := fun e => ne0 e.symm))
      clear d0 f0 p0 q0 d1 f1 p1 q1 d2 f2 p2 q2 d3 f3 p3 q3 d4 f4 p4 q4 d5 f5 p5 q5 d6 f6 p6 q6
      obtain ⟨WF, hWF, h1, h2, h3⟩ := rspec_end2 (szs := [1, (q : Int)]) (xs := List.replicate k 0) (r7 := upTo j) (AR := AR) (cR := cR) (m := 0) (lo := lo) (un := un) m0.out m_x.out G_x.out m_HB.out m_s.out (by simpa [zeros] using m_i.out) (by rw [upTo_length]; exact m_r.out) (Nat.le_of_lt G_s.out) (Nat.le_of_lt G_i.out) HV.out (by simp) (by have := HKN.out; simp; omega) (by rw [upTo_length]; omega)
      simp only [List.length_replicate, upTo_length] at hWF h2 h3
      change bodyPost _ _ _ _ _ (set7 (set3w (w6.alloc (.cells #[.slice A l.length c, .int .i64 lo, .int .i64 un] 31)) g_x _ _ _) w.heap.size _ _ _ _ _ _ _)
      have hWF2 : WF = set7 (set3w (w6.alloc (.cells #[.slice A l.length c, .int .i64 lo, .int .i64 un] 31)) g_x (.slice A l.length c) (.int .i64 lo) (.int .i64 un)) w.heap.size (.slice A l.length c) (.int .i64 lo) (.int .i64 un) (.slice (some ⟨g_s, 0, none⟩) 2 2) (.slice (some ⟨g_i, 0, none⟩) k k) (.int .i64 0) (.slice AR j cR) := hWF
      rw [← hWF2]
      clear hWF hWF2
      obtain ⟨r0, r1, r2, r3, r4, r5, r6⟩ := cells7 h2
      exact bodyPost_ret (v := .tuple #[.agg #[.slice A l.length c, .int .i64 lo, .int .i64 un, .slice (some ⟨g_s, 0, none⟩) 2 2, .slice (some ⟨g_i, 0, none⟩) k k, .int .i64 0, .slice AR j cR], .bool true]) (by simp [results, Tryz.results28, go_sem, *]) rfl ⟨_, rfl, h1, h3⟩
end Go.Proofs.YtjopodnlffaogaaGreatDoor.Tp
end
section
namespace Go.Proofs.YtjopodnlffaogaaGreatDoor.Abs
def allT : List (List Value × Value) := oneA ++ (oneB ++ (oneC ++ (oneD ++ (oneE))))
theorem allT_ok : TabOk V1 240 allT := oneA_ok.append (oneB_ok.append (oneC_ok.append (oneD_ok.append (oneE_ok))))
noncomputable def I4 : Callee := or (tabI V1 240 allT) I1
theorem I4_ok : CallOk Tryz.prog 12 I4 := or_ok allT_ok.callee I1_ok
noncomputable def C4 : Callee := run Tryz.prog 12 I4 1000 30
theorem C4_ok : CallOk Tryz.prog 12 C4 := run_ok I4_ok wide fit 1000 30
end Go.Proofs.YtjopodnlffaogaaGreatDoor.Abs
end
section
namespace Go.Proofs.YtjopodnlffaogaaGreatDoor.Abs
open Go.RowKit Tp Go.Proofs.YtjopodnlffaogaaGreatDoorW.PrintWords
set_option linter.unusedVariables false
set_option linter.unusedSimpArgs false
def insCells (l : List Ins) : List Value := l.flatMap Ins.cells
theorem insCells_length : ∀ l : List Ins, (insCells l).length = l.length * 8
  | [] => rfl
  | x :: l => by
    have := insCells_length l
    unfold insCells at this ⊢
    rw [List.flatMap_cons, List.length_append, this, List.length_cons]
    simp only [Ins.cells, List.length_cons, List.length_nil]
    omega
theorem insCells_at : ∀ (l : List Ins) (j : Nat) (x : Ins), l[j]? = some x → ((insCells l).drop (j * 8)).take 8 = x.cells
  | [], j, x, h => by simp at h
  | y :: l, 0, x, h => by
    simp at h
    subst h
    rfl
  | y :: l, j + 1, x, h => by
    have h2 : l[j]? = some x := by simpa using h
    have := insCells_at l j x h2
    have e : insCells (y :: l) = y.cells ++ insCells l := by unfold insCells; rw [List.flatMap_cons]
    rw [e, List.drop_append]
    have h8 : y.cells.length = 8 := rfl
    have h9 : (y.cells).drop ((j + 1) * 8) = [] := List.drop_eq_nil_of_le (by rw [h8]; omega)
    rw [h9, h8, List.nil_append, show (j + 1) * 8 - 8 = j * 8 by omega]
    exact this
noncomputable def asmIs (r : Option (Value × A)) (n : Nat) (cs : List Value) (lo un : Int) : Bool :=
  match r with
  | some (.tuple ⟨[.agg ⟨[.slice (some ⟨b, 0, none⟩) m 1, .int .i64 x, .int .i64 y]⟩, .int .i64 z, .int .i64 u]⟩, a) => match a.get b with
    | some (.row cs' 214 1) => Nat.beq m n && veqL cs' cs && intEq x lo && intEq y un && intEq z 0 && intEq u 0
    | _ => false
  | _ => false
theorem info214 : (Tryz.prog.info? 214).map (·.size) = some 8 := by kernel_rfl
theorem asm_of_ok {txt : ByteArray} {v : Value} {a' : A} (hrun' : OkRun 159 [.string txt] (mkA V1) v a') {l : List Ins} {lo un : Int} (h : asmIs (some (v, a')) l.length (insCells l) lo un = true) : AsmOk txt l lo un := by
  intro w W hw hbl
  obtain ⟨ρ, hR, hN, hG⟩ := hw.1.below hbl
  unfold asmIs at h
  split at h
  · rename_i b m x y z u a hrun
    cases hrun
    split at h
    · rename_i cs' hb
      simp only [Bool.and_eq_true, nbeq] at h
      obtain ⟨⟨⟨⟨⟨rfl, h2⟩, h3⟩, h4⟩, h5⟩, h6⟩ := h
      have h2 := veqL_eq h2
      subst h2
      have h3 := intEq_eq h3
      have h4 := intEq_eq h4
      have h5 := intEq_eq h5
      have h6 := intEq_eq h6
      subst h3 h4 h5 h6
      refine (hrun' ρ W #[.string txt] hR hN hG (.cons (.flat rfl) .nil)).mono ?_
      rintro e w' ⟨cv, σ, rfl, hv, hs, hn, hle⟩
      obtain ⟨arr, rfl, hl⟩ := hv.tuple_inv
      cases hl' : arr.toList with
      | nil => rw [hl'] at hl; cases hl
      | cons v1 t1 =>
        rw [hl'] at hl
        cases hl with
        | cons k1 hl =>
          cases hl with
          | cons k2 hl =>
            cases hl with
            | cons k3 hl =>
              cases hl
              obtain ⟨arr2, rfl, hl2⟩ := k1.agg_inv
              cases hl2' : arr2.toList with
              | nil => rw [hl2'] at hl2; cases hl2
              | cons u1 t2 =>
                rw [hl2'] at hl2
                cases hl2 with
                | cons j1 hl2 =>
                  cases hl2 with
                  | cons j2 hl2 =>
                    cases hl2 with
                    | cons j3 hl2 =>
                      cases hl2
                      obtain ⟨c, rfl, hcb, hcap⟩ := j1.slice_inv
                      have q2 := j2.int_inv
                      have q3 := j3.int_inv
                      have q4 := k2.int_inv
                      have q5 := k3.int_inv
                      subst q2 q3 q4 q5
                      have e2 : arr2 = #[.slice (some ⟨c, 0, none⟩) l.length (capOf σ b 1), .int .i64 x, .int .i64 y] := Array.toList_inj.1 (by simpa using hl2')
                      subst e2
                      have e1 : arr = #[.agg #[.slice (some ⟨c, 0, none⟩) l.length (capOf σ b 1), .int .i64 x, .int .i64 y], .int .i64 0, .int .i64 0] := Array.toList_inj.1 (by simpa using hl')
                      subst e1
                      obtain ⟨C, fr, g1, g2, g3, g4, g5⟩ := hs.rel.row hb hcb
                      obtain rfl := g3 (by decide)
                      obtain ⟨i, hi, hcs, hcm⟩ := g4 rfl
                      have hi8 : i.size = 8 := by
                        have := info214
                        rw [hi] at this
                        simpa using this
                      have hk : capOf σ b 1 = σ.cap b := by simp [capOf]
                      rw [hk] at hcap ⊢
                      obtain ⟨pre, rest, hC, hpre⟩ := g2
                      have hflat : flatL (insCells l) = true := by
                        rw [flatL_mem]
                        intro v hv
                        unfold insCells at hv
                        obtain ⟨y, _, hy⟩ := List.mem_flatMap.1 hv
                        simp only [Ins.cells, List.mem_cons, List.not_mem_nil, or_false] at hy
                        rcases hy with rfl | rfl | rfl | rfl | rfl | rfl | rfl | rfl <;> rfl
                      have hp := hpre.flat_eq hflat
                      subst hp
                      have hbase : W.heap.size ≤ c := by
                        rcases hs.own c ⟨b, _, hb, by show (1 : Nat) ≠ 2; decide, hcb⟩ with h7 | h7
                        · obtain ⟨b', o', q1, q2, _⟩ := h7
                          obtain ⟨_, _, rfl, _⟩ := mkA_get (vs := V1) (by kernel_rfl) q1
                          exact absurd rfl q2
                        · exact h7
                      refine ⟨some ⟨c, 0, none⟩, σ.cap b, rfl, ⟨fun _ _ => trivial, insCells l, ⟨insCells_length l, .inr ⟨c, σ.cap b, C, rfl, hbase, g1, hcap, hcm, by rw [hcs, hi8]; rfl, ?_⟩⟩, insCells_length l, fun j x hj => ?_⟩, hs.md.os, hs.md.tape, hs.md.output, hs.md.size, fun i hi => hs.md.block i hi (fun hl => ?_)⟩
                      · rw [hC]
                        exact List.take_left' (insCells_length l)
                      · have := insCells_at l j x hj
                        show kins.M _ _ _ x (((insCells l).drop (j * 8)).take 8)
                        rw [this]
                        exact kins_mkM _ _ _ _
                      · obtain ⟨b', o', q1, q2, _⟩ := hl
                        obtain ⟨_, _, rfl, _⟩ := mkA_get (vs := V1) (by kernel_rfl) q1
                        exact absurd rfl q2
    · cases h
  · cases h
theorem asm_of_run {lf : Nat} {call : Callee} (hc : CallOk Tryz.prog 12 call) {txt : ByteArray} {l : List Ins} {lo un : Int} (h : asmIs (linedI Tryz.prog lf call [159] 159 [.string txt] (mkA V1)) l.length (insCells l) lo un = true) : AsmOk txt l lo un := by
  cases hq : linedI Tryz.prog lf call [159] 159 [.string txt] (mkA V1) with
  | none => rw [hq] at h; cases h
  | some q => exact asm_of_ok (OkRun.of_call (linedI_ok hc wide [159]) hq) (by rw [← hq]; exact h)
theorem asm_of_from {c1 : Callee} (hc1 : CallOk Tryz.prog 12 c1) {lf : Nat} {txt : ByteArray} {l : List Ins} {lo un : Int} (hst : (startL 159 c1 lf [.string txt] (mkA V1)).isSome = true) (h : From (startL 159 c1 lf [.string txt] (mkA V1)) 0 none (fun r => asmIs r l.length (insCells l) lo un)) : AsmOk txt l lo un := by
  obtain ⟨v, a', h1, h2⟩ := run_of_from hc1 wide hst h rfl
  exact asm_of_ok h2 h1
end Go.Proofs.YtjopodnlffaogaaGreatDoor.Abs
end
section
namespace Go.Proofs.YtjopodnlffaogaaGreatDoor.Abs
open Go.RowKit Tp Go.Proofs.YtjopodnlffaogaaGreatDoorW.PrintWords
set_option linter.unusedVariables false
set_option linter.unusedSimpArgs false
theorem bare (W : World) : ∃ ρ, Rel Tryz.prog ρ (mkA []) W ∧ New ρ 13 ∧ GL 12 ρ := by
  refine ⟨⟨fun b => if b < 13 then some b else none, fun _ => 0⟩, ⟨(fun b o h => by cases h), (fun b b' c h => absurd rfl h)⟩, fun b hb => ?_, fun g hg => ?_⟩
  · show (if b < 13 then some b else none) = none
    rw [if_neg (by omega)]
  · show (if g < 13 then some g else none) = some g
    rw [if_pos (by omega)]
noncomputable def rasmIs (r : Option (Value × A)) (n : Nat) (cs : List Value) (lo un : Int) : Bool :=
  match r with
  | some (.tuple ⟨[.agg ⟨[.slice (some ⟨b, 0, none⟩) m 1, .int .i64 x, .int .i64 y]⟩, .int .i64 z, .int .i64 u]⟩, a) => match a.get b with
    | some (.row cs' 201 1) => Nat.beq m n && veqL cs' cs && intEq x lo && intEq y un && intEq z 0 && intEq u 0
    | _ => false
  | _ => false
theorem info201 : (Tryz.prog.info? 201).map (·.size) = some 8 := by kernel_rfl
theorem rasm_of_ok {txt : ByteArray} {v : Value} {a' : A} (hrun' : OkRun 53 [.string txt] (mkA []) v a') {l : List Ins} {lo un : Int} (h : rasmIs (some (v, a')) l.length (insCells l) lo un = true) : RAsmOk txt l lo un := by
  intro W
  obtain ⟨ρ, hR, hN, hG⟩ := bare W
  unfold rasmIs at h
  split at h
  · rename_i b m x y z u a hrun
    cases hrun
    split at h
    · rename_i cs' hb
      simp only [Bool.and_eq_true, nbeq] at h
      obtain ⟨⟨⟨⟨⟨rfl, h2⟩, h3⟩, h4⟩, h5⟩, h6⟩ := h
      have h2 := veqL_eq h2
      subst h2
      have h3 := intEq_eq h3
      have h4 := intEq_eq h4
      have h5 := intEq_eq h5
      have h6 := intEq_eq h6
      subst h3 h4 h5 h6
      refine (hrun' ρ W #[.string txt] hR hN hG (.cons (.flat rfl) .nil)).mono ?_
      rintro e w' ⟨cv, σ, rfl, hv, hs, hn, hle⟩
      obtain ⟨arr, rfl, hl⟩ := hv.tuple_inv
      cases hl' : arr.toList with
      | nil => rw [hl'] at hl; cases hl
      | cons v1 t1 =>
        rw [hl'] at hl
        cases hl with
        | cons k1 hl =>
          cases hl with
          | cons k2 hl =>
            cases hl with
            | cons k3 hl =>
              cases hl
              obtain ⟨arr2, rfl, hl2⟩ := k1.agg_inv
              cases hl2' : arr2.toList with
              | nil => rw [hl2'] at hl2; cases hl2
              | cons u1 t2 =>
                rw [hl2'] at hl2
                cases hl2 with
                | cons j1 hl2 =>
                  cases hl2 with
                  | cons j2 hl2 =>
                    cases hl2 with
                    | cons j3 hl2 =>
                      cases hl2
                      obtain ⟨c, rfl, hcb, hcap⟩ := j1.slice_inv
                      have q2 := j2.int_inv
                      have q3 := j3.int_inv
                      have q4 := k2.int_inv
                      have q5 := k3.int_inv
                      subst q2 q3 q4 q5
                      have e2 : arr2 = #[.slice (some ⟨c, 0, none⟩) l.length (capOf σ b 1), .int .i64 x, .int .i64 y] := Array.toList_inj.1 (by simpa using hl2')
                      subst e2
                      have e1 : arr = #[.agg #[.slice (some ⟨c, 0, none⟩) l.length (capOf σ b 1), .int .i64 x, .int .i64 y], .int .i64 0, .int .i64 0] := Array.toList_inj.1 (by simpa using hl')
                      subst e1
                      obtain ⟨C, fr, g1, g2, g3, g4, g5⟩ := hs.rel.row hb hcb
                      obtain rfl := g3 (by decide)
                      obtain ⟨i, hi, hcs, hcm⟩ := g4 rfl
                      have hi8 : i.size = 8 := by
                        have := info201
                        rw [hi] at this
                        simpa using this
                      have hk : capOf σ b 1 = σ.cap b := by simp [capOf]
                      rw [hk] at hcap ⊢
                      obtain ⟨pre, rest, hC, hpre⟩ := g2
                      have hflat : flatL (insCells l) = true := by
                        rw [flatL_mem]
                        intro v hv
                        unfold insCells at hv
                        obtain ⟨y, _, hy⟩ := List.mem_flatMap.1 hv
                        simp only [Ins.cells, List.mem_cons, List.not_mem_nil, or_false] at hy
                        rcases hy with rfl | rfl | rfl | rfl | rfl | rfl | rfl | rfl <;> rfl
                      have hp := hpre.flat_eq hflat
                      subst hp
                      have hbase : W.heap.size ≤ c := by
                        rcases hs.own c ⟨b, _, hb, by show (1 : Nat) ≠ 2; decide, hcb⟩ with h7 | h7
                        · obtain ⟨b', o', q1, q2, _⟩ := h7
                          obtain ⟨_, _, rfl, _⟩ := mkA_get (vs := []) (by kernel_rfl) q1
                          exact absurd rfl q2
                        · exact h7
                      refine ⟨some ⟨c, 0, none⟩, σ.cap b, rfl, ⟨fun _ _ => trivial, insCells l, ⟨insCells_length l, .inr ⟨c, σ.cap b, C, rfl, hbase, g1, hcap, hcm, by rw [hcs, hi8]; rfl, ?_⟩⟩, insCells_length l, fun j x hj => ?_⟩, hs.md.os, hs.md.tape, hs.md.output, hs.md.size, fun i hi => hs.md.block i hi (fun hl => ?_)⟩
                      · rw [hC]
                        exact List.take_left' (insCells_length l)
                      · have := insCells_at l j x hj
                        show kins.M _ _ _ x (((insCells l).drop (j * 8)).take 8)
                        rw [this]
                        exact kins_mkM _ _ _ _
                      · obtain ⟨b', o', q1, q2, _⟩ := hl
                        obtain ⟨_, _, rfl, _⟩ := mkA_get (vs := []) (by kernel_rfl) q1
                        exact absurd rfl q2
    · cases h
  · cases h
theorem rasm_of_run {call : Callee} (hc : CallOk Tryz.prog 12 call) {txt : ByteArray} {l : List Ins} {lo un : Int} (h : rasmIs (call 53 [.string txt] (mkA [])) l.length (insCells l) lo un = true) : RAsmOk txt l lo un := by
  cases hq : call 53 [.string txt] (mkA []) with
  | none => rw [hq] at h; cases h
  | some q => exact rasm_of_ok (OkRun.of_call hc hq) (by rw [← hq]; exact h)
end Go.Proofs.YtjopodnlffaogaaGreatDoor.Abs
end
