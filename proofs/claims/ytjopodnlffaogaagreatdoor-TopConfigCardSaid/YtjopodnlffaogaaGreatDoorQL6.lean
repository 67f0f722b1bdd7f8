/- A part of the proof of TopConfig: TpCls, TpRAnd. -/
import Derived.Test.YtjopodnlffaogaaGreatDoorQL5
import Derived.Test.YtjopodnlffaogaaGreatDoorQRAsm1
import Derived.Test.YtjopodnlffaogaaGreatDoorQRAsm2
import Derived.Test.YtjopodnlffaogaaGreatDoorQRAsm3
import Derived.Test.YtjopodnlffaogaaGreatDoorQRAsm4
import Derived.Test.YtjopodnlffaogaaGreatDoorQRQBad
section
namespace Go.Proofs.YtjopodnlffaogaaGreatDoor.Tp
open Go.RowKit Go.Proofs.YtjopodnlffaogaaGreatDoorW.PrintWords Go.Proofs.YtjopodnlffaogaaGreatDoorW.PrintLast Go.Proofs.YtjopodnlffaogaaGreatDoorW.PrintMore
attribute [local go_sem] max2_int min2_int max_two min_two max_three min_three max_four min_four
set_option linter.unusedVariables false
set_option linter.unusedSimpArgs false
structure RAndAll : Prop where
  all : ∀ j : Nat, j ≤ 6 → ∃ txt, RAsmOk txt (andersonL j) 0 8 ∧ ∀ W : World, Calls Tryz.prog 55 #[.int .i64 ((2 ^ j : Nat) : Int)] W fun e w' => e = .returned (.string txt) ∧ Below W.heap.size W w'
def RGood (c : Cfg) : Prop := ∀ W : World, Calls Tryz.prog 8 #[.agg c.cells] W fun e w' => ∃ AL nL cL lo un AS nS cS AI nI cI m AR nR cR, e = .returned (.tuple #[.agg #[.slice AL nL cL, .int .i64 lo, .int .i64 un, .slice AS nS cS, .slice AI nI cI, .int .i64 m, .slice AR nR cR], .bool true]) ∧ Below W.heap.size W w'
theorem rgood_of {c : Cfg} {l : List Ins} {lo un : Int} {szs xs : List Int} {m : Int} {r7 : List Int} (h : ∀ W : World, Calls Tryz.prog 8 #[.agg c.cells] W fun e w' => ∃ v, e = .returned (.tuple #[v, .bool true]) ∧ Below W.heap.size W w' ∧ SpecIs W.heap.size w' v l lo un szs xs m r7) : RGood c := fun W => (h W).mono fun e w' ⟨v, h1, h2, h3⟩ => by
  obtain ⟨AL, AS, AI, AR, cL, cS, cI, cR, rfl, _⟩ := h3
  exact ⟨_, _, _, _, _, _, _, _, _, _, _, _, _, _, _, h1, h2⟩
theorem pow_or : ∀ t : Nat, t < 65 → t = 0 ∨ (∃ j, j ≤ 6 ∧ t = 2 ^ j) ∨ ((Go.bits .and .i64 (t : Int) ((t : Int) - 1) != 0) = true ∧ ∀ j, j ≤ 6 → t ≠ 2 ^ j) := by
  have h : ∀ t : Nat, t < 65 → t = 0 ∨ (t = 1 ∨ t = 2 ∨ t = 4 ∨ t = 8 ∨ t = 16 ∨ t = 32 ∨ t = 64) ∨ (Go.bits .and .i64 (t : Int) ((t : Int) - 1) != 0) = true ∧ ¬ (t = 1 ∨ t = 2 ∨ t = 4 ∨ t = 8 ∨ t = 16 ∨ t = 32 ∨ t = 64) := of_decide_eq_true (by kernel_rfl)
  intro t ht
  rcases h t ht with h | h | ⟨h1, h2⟩
  · exact .inl h
  · refine .inr (.inl ?_)
    rcases h with rfl | rfl | rfl | rfl | rfl | rfl | rfl
    · exact ⟨0, by decide, rfl⟩
    · exact ⟨1, by decide, rfl⟩
    · exact ⟨2, by decide, rfl⟩
    · exact ⟨3, by decide, rfl⟩
    · exact ⟨4, by decide, rfl⟩
    · exact ⟨5, by decide, rfl⟩
    · exact ⟨6, by decide, rfl⟩
  · refine .inr (.inr ⟨h1, fun j hj he => h2 ?_⟩)
    rcases (by omega : j = 0 ∨ j = 1 ∨ j = 2 ∨ j = 3 ∨ j = 4 ∨ j = 5 ∨ j = 6) with rfl | rfl | rfl | rfl | rfl | rfl | rfl <;> subst he <;> decide
theorem two_cases (j : Nat) (hj : j ≤ 6) : (((((2 ^ j : Nat) : Int)) != 1) = false) ∨ (((((2 ^ j : Nat) : Int)) != 1) = true ∧ ((((2 ^ j : Nat) : Int)) != 2) = false) ∨ (((((2 ^ j : Nat) : Int)) != 1) = true ∧ ((((2 ^ j : Nat) : Int)) != 2) = true ∧ ((((2 ^ j : Nat) : Int)) != 4) = false) ∨ (((((2 ^ j : Nat) : Int)) != 1) = true ∧ ((((2 ^ j : Nat) : Int)) != 2) = true ∧ ((((2 ^ j : Nat) : Int)) != 4) = true ∧ ((((2 ^ j : Nat) : Int)) != 8) = false) ∨ (((((2 ^ j : Nat) : Int)) != 1) = true ∧ ((((2 ^ j : Nat) : Int)) != 2) = true ∧ ((((2 ^ j : Nat) : Int)) != 4) = true ∧ ((((2 ^ j : Nat) : Int)) != 8) = true ∧ ((((2 ^ j : Nat) : Int)) != 16) = false) ∨ (((((2 ^ j : Nat) : Int)) != 1) = true ∧ ((((2 ^ j : Nat) : Int)) != 2) = true ∧ ((((2 ^ j : Nat) : Int)) != 4) = true ∧ ((((2 ^ j : Nat) : Int)) != 8) = true ∧ ((((2 ^ j : Nat) : Int)) != 16) = true ∧ ((((2 ^ j : Nat) : Int)) != 32) = false) ∨ (((((2 ^ j : Nat) : Int)) != 1) = true ∧ ((((2 ^ j : Nat) : Int)) != 2) = true ∧ ((((2 ^ j : Nat) : Int)) != 4) = true ∧ ((((2 ^ j : Nat) : Int)) != 8) = true ∧ ((((2 ^ j : Nat) : Int)) != 16) = true ∧ ((((2 ^ j : Nat) : Int)) != 32) = true ∧ ((((2 ^ j : Nat) : Int)) != 64) = false) := by
  rcases (by omega : j = 0 ∨ j = 1 ∨ j = 2 ∨ j = 3 ∨ j = 4 ∨ j = 5 ∨ j = 6) with rfl | rfl | rfl | rfl | rfl | rfl | rfl <;> decide
theorem classify (H : RAsmAll) (HA : RAndAll) (kd th sl ea sp st : Int) (st0 : 0 ≤ st) (st1 : st < 4294967296) :
    ((∃ p, SpecOf ⟨kd, th, sl, ea, sp, st⟩ p) ∧ 1 ≤ sp ∧ sp ≤ 1000 ∧ RGood ⟨kd, th, sl, ea, sp, st⟩) ∨ ((∀ W : World, Refused 50 #[.agg #[.int .i64 kd, .int .i64 th, .int .i64 sl, .int .i64 ea, .int .i64 sp, .int .u32 st]] W) ∧ ∀ W : World, RRefused 8 #[.agg #[.int .i64 kd, .int .i64 th, .int .i64 sl, .int .i64 ea, .int .i64 sp, .int .u32 st]] W) := by
  by_cases hk : kd < 1 ∨ 8 < kd
  · refine .inr ⟨fun W => ?_, fun W => ?_⟩
    · rcases hk with h | h
      · exact qbad_k0 kd th sl ea sp st W h
      · exact qbad_k1 kd th sl ea sp st W h
    · by_cases h1 : sp < 1
      · exact rqbad_s0 kd th sl ea sp st W h1
      · by_cases h2 : 1000 < sp
        · exact rqbad_s1 kd th sl ea sp st W h2
        · exact rqbad_kd kd th sl ea sp st W (by omega) (by omega) hk
  have k1 : 1 ≤ kd := by omega
  have k8 : kd ≤ 8 := by omega
  by_cases h1 : sp < 1
  · exact .inr ⟨fun W => qbad_s0 kd th sl ea sp st W k1 k8 h1, fun W => rqbad_s0 kd th sl ea sp st W h1⟩
  by_cases h2 : 1000 < sp
  · exact .inr ⟨fun W => qbad_s1 kd th sl ea sp st W k1 k8 h2, fun W => rqbad_s1 kd th sl ea sp st W h2⟩
  have s0 : 1 ≤ sp := by omega
  have s1 : sp ≤ 1000 := by omega
  clear h1 h2 hk
  rcases (by omega : kd = 1 ∨ kd = 2 ∨ kd = 3 ∨ kd = 4 ∨ kd = 5 ∨ kd = 6 ∨ kd = 7 ∨ kd = 8) with rfl | rfl | rfl | rfl | rfl | rfl | rfl | rfl
  · by_cases h1 : th < 1
    · exact .inr ⟨fun W => qbad_ticket th sl ea sp st W s0 s1 (fun V => ticket_bad0 th st V h1), fun W => rqbad_ticket th sl ea sp st W s0 s1 (fun V => rticket_bad0 th st V h1)⟩
    by_cases h2 : 64 < th
    · exact .inr ⟨fun W => qbad_ticket th sl ea sp st W s0 s1 (fun V => ticket_bad1 th st V h2), fun W => rqbad_ticket th sl ea sp st W s0 s1 (fun V => rticket_bad1 th st V h2)⟩
    obtain ⟨n, rfl⟩ : ∃ n : Nat, th = (n : Int) := ⟨th.toNat, by omega⟩
    have n1 : 1 ≤ n := by omega
    have n64 : n ≤ 64 := by omega
    obtain ⟨s, rfl⟩ : ∃ s : Nat, st = (s : Int) := ⟨st.toNat, by omega⟩
    exact .inl ⟨⟨_, .ticket n s sl ea sp n1 n64⟩, s0, s1, rgood_of fun W => rq_ticket H n s sl ea sp W n1 n64 s0 s1⟩
  · by_cases h1 : th < 1
    · exact .inr ⟨fun W => qbad_anderson th sl ea sp st W s0 s1 (fun V => anderson_bad0 th sl st V h1), fun W => rqbad_anderson th sl ea sp st W s0 s1 (fun V => randerson_bad0 th sl st V h1)⟩
    by_cases h2 : 64 < th
    · exact .inr ⟨fun W => qbad_anderson th sl ea sp st W s0 s1 (fun V => anderson_bad1 th sl st V h2), fun W => rqbad_anderson th sl ea sp st W s0 s1 (fun V => randerson_bad1 th sl st V h2)⟩
    obtain ⟨n, rfl⟩ : ∃ n : Nat, th = (n : Int) := ⟨th.toNat, by omega⟩
    have n1 : 1 ≤ n := by omega
    have n64 : n ≤ 64 := by omega
    by_cases h3 : sl < (n : Int)
    · exact .inr ⟨fun W => qbad_anderson n sl ea sp st W s0 s1 (fun V => anderson_bad2 n sl st V (by omega) (by omega) h3), fun W => rqbad_anderson n sl ea sp st W s0 s1 (fun V => randerson_bad2 n sl st V (by omega) (by omega) h3)⟩
    by_cases h4 : 64 < sl
    · exact .inr ⟨fun W => qbad_anderson n sl ea sp st W s0 s1 (fun V => anderson_bad3 n sl st V (by omega) (by omega) (by omega) h4), fun W => rqbad_anderson n sl ea sp st W s0 s1 (fun V => randerson_bad3 n sl st V (by omega) (by omega) (by omega) (bne_iff_ne.mpr (by omega)) (bne_iff_ne.mpr (by omega)) (bne_iff_ne.mpr (by omega)) (bne_iff_ne.mpr (by omega)) (bne_iff_ne.mpr (by omega)) (bne_iff_ne.mpr (by omega)) (bne_iff_ne.mpr (by omega)))⟩
    obtain ⟨t, rfl⟩ : ∃ t : Nat, sl = (t : Int) := ⟨sl.toNat, by omega⟩
    obtain ⟨s, rfl⟩ : ∃ s : Nat, st = (s : Int) := ⟨st.toNat, by omega⟩
    rcases pow_or t (by omega) with h | ⟨j, hj, rfl⟩ | ⟨h5, h6⟩
    · omega
    · obtain ⟨txt, r1, r2⟩ := HA.all j hj
      exact .inl ⟨⟨_, .anderson n j s ea sp n1 n64 hj (by omega) (by omega)⟩, s0, s1, rgood_of fun W => rq_anderson (andersonL j) n (2 ^ j) s r1 r2 ea sp W n1 n64 (by omega) (by omega) (by omega) (two_cases j hj) s0 s1⟩
    · exact .inr ⟨fun W => qbad_anderson n t ea sp s W s0 s1 (fun V => anderson_bad4 n t s V (by omega) (by omega) (by omega) (by omega) h5), fun W => rqbad_anderson n t ea sp s W s0 s1 (fun V => randerson_bad3 n t s V (by omega) (by omega) (by omega) (bne_iff_ne.mpr (by have := h6 0 (by decide); omega)) (bne_iff_ne.mpr (by have := h6 1 (by decide); omega)) (bne_iff_ne.mpr (by have := h6 2 (by decide); omega)) (bne_iff_ne.mpr (by have := h6 3 (by decide); omega)) (bne_iff_ne.mpr (by have := h6 4 (by decide); omega)) (bne_iff_ne.mpr (by have := h6 5 (by decide); omega)) (bne_iff_ne.mpr (by have := h6 6 (by decide); omega)))⟩
  · by_cases h1 : th < 1
    · exact .inr ⟨fun W => qbad_graunke th sl ea sp st W s0 s1 (fun V => graunke_bad0 th V h1), fun W => rqbad_graunke th sl ea sp st W s0 s1 (fun V => rgraunke_bad0 th V h1)⟩
    by_cases h2 : 64 < th
    · exact .inr ⟨fun W => qbad_graunke th sl ea sp st W s0 s1 (fun V => graunke_bad1 th V h2), fun W => rqbad_graunke th sl ea sp st W s0 s1 (fun V => rgraunke_bad1 th V h2)⟩
    obtain ⟨n, rfl⟩ : ∃ n : Nat, th = (n : Int) := ⟨th.toNat, by omega⟩
    have n1 : 1 ≤ n := by omega
    have n64 : n ≤ 64 := by omega
    exact .inl ⟨⟨_, .graunke n sl ea sp st n1 n64⟩, s0, s1, rgood_of fun W => rq_graunke H n sl ea sp st W n1 n64 s0 s1⟩
  · by_cases h1 : th < 1
    · exact .inr ⟨fun W => qbad_clh th sl ea sp st W s0 s1 (fun V => clh_bad0 th V h1), fun W => rqbad_clh th sl ea sp st W s0 s1 (fun V => rclh_bad0 th V h1)⟩
    by_cases h2 : 64 < th
    · exact .inr ⟨fun W => qbad_clh th sl ea sp st W s0 s1 (fun V => clh_bad1 th V h2), fun W => rqbad_clh th sl ea sp st W s0 s1 (fun V => rclh_bad1 th V h2)⟩
    obtain ⟨n, rfl⟩ : ∃ n : Nat, th = (n : Int) := ⟨th.toNat, by omega⟩
    have n1 : 1 ≤ n := by omega
    have n64 : n ≤ 64 := by omega
    exact .inl ⟨⟨_, .clh n sl ea sp st n1 n64⟩, s0, s1, rgood_of fun W => rq_clh H n sl ea sp st W n1 n64 s0 s1⟩
  · by_cases h1 : th < 1
    · exact .inr ⟨fun W => qbad_mcs th sl ea sp st W s0 s1 (fun V => mcs_bad0 th V h1), fun W => rqbad_mcs th sl ea sp st W s0 s1 (fun V => rmcs_bad0 th V h1)⟩
    by_cases h2 : 64 < th
    · exact .inr ⟨fun W => qbad_mcs th sl ea sp st W s0 s1 (fun V => mcs_bad1 th V h2), fun W => rqbad_mcs th sl ea sp st W s0 s1 (fun V => rmcs_bad1 th V h2)⟩
    obtain ⟨n, rfl⟩ : ∃ n : Nat, th = (n : Int) := ⟨th.toNat, by omega⟩
    have n1 : 1 ≤ n := by omega
    have n64 : n ≤ 64 := by omega
    exact .inl ⟨⟨_, .mcs n sl ea sp st n1 n64⟩, s0, s1, rgood_of fun W => rq_mcs H n sl ea sp st W n1 n64 s0 s1⟩
  · by_cases h1 : th < 1
    · exact .inr ⟨fun W => qbad_k42 th sl ea sp st W s0 s1 (fun V => k42_bad0 th V h1), fun W => rqbad_k42 th sl ea sp st W s0 s1 (fun V => rk42_bad0 th V h1)⟩
    by_cases h2 : 64 < th
    · exact .inr ⟨fun W => qbad_k42 th sl ea sp st W s0 s1 (fun V => k42_bad1 th V h2), fun W => rqbad_k42 th sl ea sp st W s0 s1 (fun V => rk42_bad1 th V h2)⟩
    obtain ⟨n, rfl⟩ : ∃ n : Nat, th = (n : Int) := ⟨th.toNat, by omega⟩
    have n1 : 1 ≤ n := by omega
    have n64 : n ≤ 64 := by omega
    exact .inl ⟨⟨_, .k42 n sl ea sp st n1 n64⟩, s0, s1, rgood_of fun W => rq_k42 H n sl ea sp st W n1 n64 s0 s1⟩
  · by_cases h1 : th < 1
    · exact .inr ⟨fun W => qbad_clhtry th sl ea sp st W s0 s1 (fun V => clhtry_bad0 th ea V h1), fun W => rqbad_clhtry th sl ea sp st W s0 s1 (fun V => rclhtry_bad0 th ea V h1)⟩
    by_cases h2 : 64 < th
    · exact .inr ⟨fun W => qbad_clhtry th sl ea sp st W s0 s1 (fun V => clhtry_bad1 th ea V h2), fun W => rqbad_clhtry th sl ea sp st W s0 s1 (fun V => rclhtry_bad1 th ea V h2)⟩
    obtain ⟨n, rfl⟩ : ∃ n : Nat, th = (n : Int) := ⟨th.toNat, by omega⟩
    have n1 : 1 ≤ n := by omega
    have n64 : n ≤ 64 := by omega
    by_cases h3 : ea < 2
    · exact .inr ⟨fun W => qbad_clhtry n sl ea sp st W s0 s1 (fun V => clhtry_bad2 n ea V (by omega) (by omega) h3), fun W => rqbad_clhtry n sl ea sp st W s0 s1 (fun V => rclhtry_bad2 n ea V (by omega) (by omega) h3)⟩
    by_cases h4 : 8 < ea
    · exact .inr ⟨fun W => qbad_clhtry n sl ea sp st W s0 s1 (fun V => clhtry_bad3 n ea V (by omega) (by omega) h4), fun W => rqbad_clhtry n sl ea sp st W s0 s1 (fun V => rclhtry_bad3 n ea V (by omega) (by omega) h4)⟩
    obtain ⟨m, rfl⟩ : ∃ m : Nat, ea = (m : Int) := ⟨ea.toNat, by omega⟩
    exact .inl ⟨⟨_, .clhtry n m sl sp st n1 n64 (by omega) (by omega)⟩, s0, s1, rgood_of fun W => rq_clhtry H n m sl sp st W n1 n64 (by omega) (by omega) s0 s1⟩
  · by_cases h1 : th < 1
    · exact .inr ⟨fun W => qbad_mcstry th sl ea sp st W s0 s1 (fun V => mcstry_bad0 th ea V h1), fun W => rqbad_mcstry th sl ea sp st W s0 s1 (fun V => rmcstry_bad0 th ea V h1)⟩
    by_cases h2 : 64 < th
    · exact .inr ⟨fun W => qbad_mcstry th sl ea sp st W s0 s1 (fun V => mcstry_bad1 th ea V h2), fun W => rqbad_mcstry th sl ea sp st W s0 s1 (fun V => rmcstry_bad1 th ea V h2)⟩
    obtain ⟨n, rfl⟩ : ∃ n : Nat, th = (n : Int) := ⟨th.toNat, by omega⟩
    have n1 : 1 ≤ n := by omega
    have n64 : n ≤ 64 := by omega
    by_cases h3 : ea < 1
    · exact .inr ⟨fun W => qbad_mcstry n sl ea sp st W s0 s1 (fun V => mcstry_bad2 n ea V (by omega) (by omega) h3), fun W => rqbad_mcstry n sl ea sp st W s0 s1 (fun V => rmcstry_bad2 n ea V (by omega) (by omega) h3)⟩
    by_cases h4 : 8 < ea
    · exact .inr ⟨fun W => qbad_mcstry n sl ea sp st W s0 s1 (fun V => mcstry_bad3 n ea V (by omega) (by omega) h4), fun W => rqbad_mcstry n sl ea sp st W s0 s1 (fun V => rmcstry_bad3 n ea V (by omega) (by omega) h4)⟩
    obtain ⟨m, rfl⟩ : ∃ m : Nat, ea = (m : Int) := ⟨ea.toNat, by omega⟩
    exact .inl ⟨⟨_, .mcstry n m sl sp st n1 n64 (by omega) (by omega)⟩, s0, s1, rgood_of fun W => rq_mcstry H n m sl sp st W n1 n64 (by omega) (by omega) s0 s1⟩
end Go.Proofs.YtjopodnlffaogaaGreatDoor.Tp
end
section
namespace Go.Proofs.YtjopodnlffaogaaGreatDoor.Tp
open Go.RowKit Go.Proofs.YtjopodnlffaogaaGreatDoorW.PrintWords Go.Proofs.YtjopodnlffaogaaGreatDoorW.PrintLast Go.Proofs.YtjopodnlffaogaaGreatDoorW.PrintMore
attribute [local go_sem] max2_int min2_int max_two min_two max_three min_three max_four min_four
set_option linter.unusedVariables false
set_option linter.unusedSimpArgs false
open Abs
def RTextOk (f : FuncId) (args : Array Value) (t : ByteArray) : Prop := ∀ W : World, Calls Tryz.prog f args W fun e w' => e = .returned (.string t) ∧ Below W.heap.size W w'
theorem rtextOk_of {f : FuncId} {args : List Value} {t : ByteArray} (h : Known Tryz.prog [] f args (.string t)) : RTextOk f args.toArray t := by
  intro W
  obtain ⟨ρ, hR, hN, hG⟩ := bare W
  refine (h ρ (mkA []) W hR hG (by kernel_rfl)).mono ?_
  rintro e w' ⟨rfl, hm⟩
  exact ⟨rfl, hm.os, hm.tape, hm.output, hm.size, fun i hi => hm.block i hi (fun hf => hf)⟩
set_option maxRecDepth 1000000 in
theorem rand0_known : Known Tryz.prog [] 55 [.int .i64 1] (.string anderson0Text) := known_says C1_ok (by kernel_rfl) (by kernel_rfl) (by kernel_rfl) (by kernel_rfl)
set_option maxRecDepth 1000000 in
theorem rand1_known : Known Tryz.prog [] 55 [.int .i64 2] (.string anderson1Text) := known_says C1_ok (by kernel_rfl) (by kernel_rfl) (by kernel_rfl) (by kernel_rfl)
set_option maxRecDepth 1000000 in
theorem rand2_known : Known Tryz.prog [] 55 [.int .i64 4] (.string anderson2Text) := known_says C1_ok (by kernel_rfl) (by kernel_rfl) (by kernel_rfl) (by kernel_rfl)
set_option maxRecDepth 1000000 in
theorem rand3_known : Known Tryz.prog [] 55 [.int .i64 8] (.string anderson3Text) := known_says C1_ok (by kernel_rfl) (by kernel_rfl) (by kernel_rfl) (by kernel_rfl)
set_option maxRecDepth 1000000 in
theorem rand4_known : Known Tryz.prog [] 55 [.int .i64 16] (.string anderson4Text) := known_says C1_ok (by kernel_rfl) (by kernel_rfl) (by kernel_rfl) (by kernel_rfl)
set_option maxRecDepth 1000000 in
theorem rand5_known : Known Tryz.prog [] 55 [.int .i64 32] (.string anderson5Text) := known_says C1_ok (by kernel_rfl) (by kernel_rfl) (by kernel_rfl) (by kernel_rfl)
set_option maxRecDepth 1000000 in
theorem rand6_known : Known Tryz.prog [] 55 [.int .i64 64] (.string anderson6Text) := known_says C1_ok (by kernel_rfl) (by kernel_rfl) (by kernel_rfl) (by kernel_rfl)
theorem rAndAll : RAndAll := ⟨fun j hj => by
  rcases (by omega : j = 0 ∨ j = 1 ∨ j = 2 ∨ j = 3 ∨ j = 4 ∨ j = 5 ∨ j = 6) with rfl | rfl | rfl | rfl | rfl | rfl | rfl
  · exact ⟨_, anderson0_rasm, rtextOk_of rand0_known⟩
  · exact ⟨_, anderson1_rasm, rtextOk_of rand1_known⟩
  · exact ⟨_, anderson2_rasm, rtextOk_of rand2_known⟩
  · exact ⟨_, anderson3_rasm, rtextOk_of rand3_known⟩
  · exact ⟨_, anderson4_rasm, rtextOk_of rand4_known⟩
  · exact ⟨_, anderson5_rasm, rtextOk_of rand5_known⟩
  · exact ⟨_, anderson6_rasm, rtextOk_of rand6_known⟩⟩
theorem rAsmAll : RAsmAll := ⟨ticket_rasm, graunke_rasm, clh_rasm, mcs_rasm, k42_rasm, clhtry_rasm, mcstry_rasm⟩
end Go.Proofs.YtjopodnlffaogaaGreatDoor.Tp
end
