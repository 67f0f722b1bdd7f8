/- HandleUnlike: the walk: given what 'handle.New' answers at the two pairs, the law returns true. Condition: unlike pairs that have handles have unlike ones, and like pairs the same. -/
import Derived.Test.YtnipoppocebfcaaRows
import Derived.Test.YtnipoppocebfcaaPHandleUnlikex1
import Derived.Test.YtnipoppocebfcaaHandlePlain
namespace Go.Proofs.Ytnipoppocebfcaa.Unlike
open Go.RowKit Go.Proofs.Ytnipoppocebfcaa.PHandleUnlike Go.Proofs.YtnipoppocebfcaaW.PrintWords Go.Proofs.YtnipoppocebfcaaW.PrintLast Go.Proofs.YtnipoppocebfcaaW.PrintMore
open Go.Proofs.Ytnipoppocebfcaa.HandlePlain

theorem new_ok (i g : Int) (hg0 : 0 ≤ g) (hg1 : g < 262144) (hi0 : 0 ≤ i) (hi1 : i < 4096) : handle_New.f i g = some (g * 4096 + i, 0) := by
  unfold handle_New.f; rw [if_neg (by omega), if_neg (by omega), if_neg (by omega), if_neg (by omega), new_word i g hg0 hg1 hi0 hi1]; rfl
theorem new_no (i g : Int) (c : ¬ (0 ≤ i ∧ i < 4096 ∧ 0 ≤ g ∧ g < 262144)) : handle_New.f i g = some (0, 1) := by
  unfold handle_New.f
  by_cases a : i < 0
  · rw [if_pos a]
  by_cases b : i ≥ 4096
  · rw [if_neg a, if_pos b]
  by_cases c' : g < 0
  · rw [if_neg a, if_neg b, if_pos c']
  · rw [if_neg a, if_neg b, if_neg c', if_pos (by omega)]
theorem awake_true : ropelinelaw01_awake.f = some true := by
  have i1 : handle_Index.f 8197 = some 5 := by
    unfold handle_Index.f; rw [and_4095 8197 (by omega) (by omega), wrap_in _ (by omega)]; rfl
  have i2 : handle_Gen.f 8197 = some 2 := by
    unfold handle_Gen.f; rw [and_262143 _ (by omega) (by omega), wrap_in _ (by omega)]; rfl
  have i3 : handle_Next.f 8197 = some 12293 := by
    unfold handle_Next.f
    rw [i1, i2]; simp only [obind]
    rw [wrap_in _ (by omega), Int.tmod_eq_emod_of_nonneg (by omega), new_ok _ _ (by omega) (by omega) (by omega) (by omega)]; rfl
  unfold ropelinelaw01_awake.f
  rw [new_ok 5 2 (by omega) (by omega) (by omega) (by omega)]; simp only [obind]
  rw [if_pos (by omega), if_pos trivial]
  show (handle_Next.f 8197).bind _ = _
  rw [i3]; rfl


set_option maxHeartbeats 1000000 in
set_option maxRecDepth 100000 in
theorem walk_both (a b c d x y : Int) (w : World) (p q r : Bool) (A : Aside0 (handle_New.f a b = some (x, 0))) (B : Aside0 (handle_New.f c d = some (y, 0))) (K : Aside0 (ropelinelaw01_awake.f = some true))
    (e1 : (x == y) = p) (e2 : (a == c) = q) (e3 : (b == d) = r) (E : Aside0 (p = (q && r))) :
    Calls Try.prog 3 #[.agg #[.int .i64 a, .int .i64 b, .int .i64 c, .int .i64 d]] w fun e w' => e = .returned (.bool true) ∧ Below w.heap.size w w' := by
  cases q <;> cases r <;> (have E1 := E.out; simp at E1; subst E1; clear E)
  all_goals
    go_enter Try.func3, Try.ntmps3
    go_wp2
    go_quiet (fail)
    go_wp2_with fail
    refine (handle_New.calls a b x 0 _ A.out).mono ?_
    rintro e w' ⟨rfl, ⟨n1, rfl⟩⟩
    go_wp2_with fail
    refine (handle_New.calls c d y 0 _ B.out).mono ?_
    rintro e w' ⟨rfl, ⟨n2, rfl⟩⟩
    go_wp2_with fail
    refine (ropelinelaw01_awake.calls true _ K.out).mono ?_
    rintro e w' ⟨rfl, ⟨n3, rfl⟩⟩
    go_wp2
    go_ret
    exact ⟨rfl, by repeat (first | exact (Below.refl _ _).alloc (Nat.le_refl _) _ | apply pw_below_drewN)⟩

set_option maxHeartbeats 1000000 in
set_option maxRecDepth 100000 in
theorem walk_one (a b c d x y f : Int) (w : World) (A : Aside0 (handle_New.f a b = some (x, 0))) (B : Aside0 (handle_New.f c d = some (y, f))) (K : Aside0 (ropelinelaw01_awake.f = some true))
    (e1 : (f != 0) = true) :
    Calls Try.prog 3 #[.agg #[.int .i64 a, .int .i64 b, .int .i64 c, .int .i64 d]] w fun e w' => e = .returned (.bool true) ∧ Below w.heap.size w w' := by
  go_enter Try.func3, Try.ntmps3
  go_wp2
  go_quiet (fail)
  go_wp2_with fail
  refine (handle_New.calls a b x 0 _ A.out).mono ?_
  rintro e w' ⟨rfl, ⟨n1, rfl⟩⟩
  go_wp2_with fail
  refine (handle_New.calls c d y f _ B.out).mono ?_
  rintro e w' ⟨rfl, ⟨n2, rfl⟩⟩
  go_wp2_with fail
  refine (ropelinelaw01_awake.calls true _ K.out).mono ?_
  rintro e w' ⟨rfl, ⟨n3, rfl⟩⟩
  go_wp2
  go_ret
  exact ⟨rfl, by repeat (first | exact (Below.refl _ _).alloc (Nat.le_refl _) _ | apply pw_below_drewN)⟩

set_option maxHeartbeats 1000000 in
set_option maxRecDepth 100000 in
theorem walk_none (a b c d x y g f : Int) (w : World) (A : Aside0 (handle_New.f a b = some (x, g))) (B : Aside0 (handle_New.f c d = some (y, f))) (K : Aside0 (ropelinelaw01_awake.f = some true))
    (e1 : (g != 0) = true) :
    Calls Try.prog 3 #[.agg #[.int .i64 a, .int .i64 b, .int .i64 c, .int .i64 d]] w fun e w' => e = .returned (.bool true) ∧ Below w.heap.size w w' := by
  go_enter Try.func3, Try.ntmps3
  go_wp2
  go_quiet (fail)
  go_wp2_with fail
  refine (handle_New.calls a b x g _ A.out).mono ?_
  rintro e w' ⟨rfl, ⟨n1, rfl⟩⟩
  go_wp2_with fail
  refine (handle_New.calls c d y f _ B.out).mono ?_
  rintro e w' ⟨rfl, ⟨n2, rfl⟩⟩
  go_wp2_with fail
  refine (ropelinelaw01_awake.calls true _ K.out).mono ?_
  rintro e w' ⟨rfl, ⟨n3, rfl⟩⟩
  go_wp2
  go_ret
  exact ⟨rfl, by repeat (first | exact (Below.refl _ _).alloc (Nat.le_refl _) _ | apply pw_below_drewN)⟩

theorem walk (a b c d : Int) (w : World) :
    Calls Try.prog 3 #[.agg #[.int .i64 a, .int .i64 b, .int .i64 c, .int .i64 d]] w fun e w' => e = .returned (.bool true) ∧ Below w.heap.size w w' := by
  have K : Aside0 (ropelinelaw01_awake.f = some true) := ⟨awake_true⟩
  by_cases h1 : 0 ≤ a ∧ a < 4096 ∧ 0 ≤ b ∧ b < 262144
  · have A := new_ok a b h1.2.2.1 h1.2.2.2 h1.1 h1.2.1
    by_cases h2 : 0 ≤ c ∧ c < 4096 ∧ 0 ≤ d ∧ d < 262144
    · have B := new_ok c d h2.2.2.1 h2.2.2.2 h2.1 h2.2.1
      refine walk_both a b c d _ _ w _ _ _ ⟨A⟩ ⟨B⟩ K rfl rfl rfl ⟨?_⟩
      rw [Bool.eq_iff_iff]
      simp only [Bool.and_eq_true, beq_iff_eq]
      omega
    · exact walk_one a b c d _ _ _ w ⟨A⟩ ⟨new_no c d h2⟩ K (by decide)
  · by_cases h2 : 0 ≤ c ∧ c < 4096 ∧ 0 ≤ d ∧ d < 262144
    · exact walk_none a b c d _ _ _ _ w ⟨new_no a b h1⟩ ⟨new_ok c d h2.2.2.1 h2.2.2.2 h2.1 h2.2.1⟩ K (by decide)
    · exact walk_none a b c d _ _ _ _ w ⟨new_no a b h1⟩ ⟨new_no c d h2⟩ K (by decide)
end Go.Proofs.Ytnipoppocebfcaa.Unlike
