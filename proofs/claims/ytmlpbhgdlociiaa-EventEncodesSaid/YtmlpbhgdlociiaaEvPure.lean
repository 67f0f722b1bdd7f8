/- Events and bytes, in plain Lean: what Decode comes to is 'dec', a function on lists; the reference's Decode comes to the same; what is encoded is decoded again, whatever stands behind it. -/
import Derived.Test.YtmlpbhgdlociiaaEvAwake
import Derived.Test.YtmlpbhgdlociiaaEvRefDecode
import Derived.Test.YtmlpbhgdlociiaaEvEncode
import Derived.Test.YtmlpbhgdlociiaaEvRefRight
namespace Go.Proofs.Ytmlpbhgdlociiaa.Ev
open Go.RowKit Go.Proofs.YtmlpbhgdlociiaaW.PrintWords Go.Proofs.YtmlpbhgdlociiaaW.PrintLast Go.Proofs.YtmlpbhgdlociiaaW.PrintMore Go.Proofs.Ytmlpbhgdlociiaa.PEventEncodes

theorem obind {α β : Type} (a : α) (f : α → Option β) : (some a).bind f = f a := (Option.bind_some a f).trans rfl
theorem wrap_in (x : Int) (h : -9223372036854775808 ≤ x ∧ x ≤ 9223372036854775807) : wrap64 x = x := by unfold wrap64; omega
theorem s29_ext {a b : S29} (h0 : a.f0 = b.f0) (h1 : a.f1 = b.f1) (h2 : a.f2 = b.f2) : a = b := by cases a; cases b; simp_all

/-- The event of a byte that bears no wait. -/
def one (b : Int) : S29 := if b % 6 = 2 then ⟨2, 0, 0⟩ else if b % 6 = 3 then ⟨3, b / 6, 0⟩ else if b % 6 = 5 then ⟨5, b / 6, 0⟩ else ⟨1, b / 6, 0⟩
/-- The events of bytes. -/
def dec : List Int → List S29
  | [] => []
  | [b] => if b % 6 = 4 then [⟨4, b / 6, 0⟩] else [one b]
  | b :: w :: r => if b % 6 = 4 then ⟨4, b / 6, w⟩ :: dec r else one b :: dec (w :: r)
theorem dec_nil : dec [] = [] := by unfold dec; rfl
theorem dec_plain (b : Int) (r : List Int) (h : ¬ b % 6 = 4) : dec (b :: r) = one b :: dec r := by
  cases r with
  | nil => unfold dec; rw [if_neg h]
  | cons w r => rw [dec, if_neg h]
theorem dec_try (b w : Int) (r : List Int) (h : b % 6 = 4) : dec (b :: w :: r) = ⟨4, b / 6, w⟩ :: dec r := by rw [dec, if_pos h]
theorem dec_last (b : Int) (h : b % 6 = 4) : dec [b] = [⟨4, b / 6, 0⟩] := by rw [dec, if_pos h]
theorem dec_length (l : List Int) : (dec l).length ≤ l.length := by
  match l with
  | [] => rw [dec_nil]; exact Nat.le_refl _
  | [b] => rw [dec]; split <;> simp
  | b :: w :: r =>
    rw [dec]
    split
    · have := dec_length r; simp; omega
    · have := dec_length (w :: r); simp at this ⊢; omega

/-- All of them are bytes. -/
def bytes (l : List Int) : Prop := ∀ x ∈ l, 0 ≤ x ∧ x ≤ 255
theorem rd_nat (l : List Int) (i : Nat) : rd l (i : Int) = l.getD i 0 := by unfold rd; simp
theorem rd_byte {l : List Int} (hl : bytes l) (i : Nat) : 0 ≤ l.getD i 0 ∧ l.getD i 0 ≤ 255 := by
  rw [List.getD_eq_getElem?_getD]
  rcases Nat.lt_or_ge i l.length with h | h
  · rw [List.getElem?_eq_getElem h]; exact hl _ (List.getElem_mem h)
  · rw [List.getElem?_eq_none h]; decide
theorem drop_at {l : List Int} {i : Nat} (h : i < l.length) : l.drop i = l.getD i 0 :: l.drop (i + 1) := by
  rw [List.drop_eq_getElem_cons h, List.getD_eq_getElem?_getD, List.getElem?_eq_getElem h]; rfl

theorem snoc_one {l : List S29} {x : S29} {r : List S29} : l ++ [x] ++ r = l ++ (x :: r) := by simp

theorem decode_from (l : List Int) (hl : bytes l) (hn : l.length ≤ 1000) (d : Nat) : ∀ (k i : Nat) (acc : List S29), l.length - i ≤ d → d < k → acc.length ≤ i → i ≤ l.length + 1 →
    event_Decode.l0 k l acc i = some (acc ++ dec (l.drop i)) := by
  induction d with
  | zero =>
    intro k i acc hd hk ha hi
    obtain ⟨k, rfl⟩ : ∃ m, k = m + 1 := ⟨k - 1, by omega⟩
    have c : ¬ (i : Int) < (l.length : Int) := by omega
    simp only [event_Decode.l0]
    rw [if_neg c, List.drop_eq_nil_of_le (by omega), dec_nil, List.append_nil]
  | succ d ih =>
    intro k i acc hd hk ha hi
    obtain ⟨k, rfl⟩ : ∃ m, k = m + 1 := ⟨k - 1, by omega⟩
    by_cases c : i < l.length
    · have c1 : (i : Int) < (l.length : Int) := by omega
      have c2 : (0 : Int) ≤ (i : Int) := by omega
      obtain ⟨b0, b1⟩ := rd_byte hl i
      have hw : wrap64 ((i : Int) + 1) = ((i + 1 : Nat) : Int) := by rw [wrap_in _ (by omega)]; omega
      have hw2 : wrap64 (((i + 1 : Nat) : Int) + 1) = ((i + 2 : Nat) : Int) := by rw [wrap_in _ (by omega)]; omega
      have ht : ∀ b : Int, 0 ≤ b → b ≤ 255 → Int.tmod b 6 = b % 6 := fun b h _ => Int.tmod_eq_emod_of_nonneg h
      have hq : ∀ b : Int, 0 ≤ b → b ≤ 255 → (Int.tdiv b 6) % 256 = b / 6 := fun b h h' => by rw [Int.tdiv_eq_ediv_of_nonneg h]; omega
      have room : acc.length < 5864062014805 := by omega
      simp only [event_Decode.l0]
      rw [if_pos c1, if_pos c2, rd_nat, hw, hw2, drop_at c]
      obtain ⟨b, hb⟩ : ∃ b, b = l.getD i 0 := ⟨_, rfl⟩
      rw [← hb] at b0 b1 ⊢
      rw [ht b b0 b1, hq b b0 b1]
      have one_more : ∀ x : S29, ¬ b % 6 = 4 → one b = x → event_Decode.l0 k l (acc ++ [x]) ((i + 1 : Nat) : Int) = some (acc ++ dec (b :: l.drop (i + 1))) := fun x h4 hx => by
        rw [ih k (i + 1) (acc ++ [x]) (by omega) (by omega) (by simp; omega) (by omega), dec_plain b _ h4, hx, snoc_one]
      by_cases h2 : b % 6 = 2
      · rw [if_pos h2, if_pos room]
        exact one_more _ (by omega) (by unfold one; rw [if_pos h2])
      rw [if_neg h2]
      by_cases h3 : b % 6 = 3
      · rw [if_pos h3, if_pos room]
        exact one_more _ (by omega) (by unfold one; rw [if_neg h2, if_pos h3])
      rw [if_neg h3]
      by_cases h4 : b % 6 = 4
      · rw [if_pos h4]
        by_cases e : i + 1 < l.length
        · have e1 : ((i + 1 : Nat) : Int) < (l.length : Int) := by omega
          have e2 : (0 : Int) ≤ ((i + 1 : Nat) : Int) := by omega
          obtain ⟨w0, w1⟩ := rd_byte hl (i + 1)
          have hww : wrap64 (l.getD (i + 1) 0) = l.getD (i + 1) 0 := wrap_in _ (by omega)
          rw [if_pos e1, if_pos e2, if_pos room, rd_nat, hww, ih k (i + 2) _ (by omega) (by omega) (by simp; omega) (by omega), drop_at e, dec_try _ _ _ h4, snoc_one]
        · have e1 : ¬ ((i + 1 : Nat) : Int) < (l.length : Int) := by omega
          rw [if_neg e1, if_pos room, ih k (i + 2) _ (by omega) (by omega) (by simp; omega) (by omega), List.drop_eq_nil_of_le (show l.length ≤ i + 1 by omega), dec_last _ h4,
            List.drop_eq_nil_of_le (show l.length ≤ i + 2 by omega), dec_nil, List.append_nil]
      rw [if_neg h4]
      by_cases h5 : b % 6 = 5
      · rw [if_pos h5, if_pos room]
        exact one_more _ h4 (by unfold one; rw [if_neg h2, if_neg h3, if_pos h5])
      · rw [if_neg h5, if_pos room]
        exact one_more _ h4 (by unfold one; rw [if_neg h2, if_neg h3, if_neg h5])
    · have c1 : ¬ (i : Int) < (l.length : Int) := by omega
      simp only [event_Decode.l0]
      rw [if_neg c1, List.drop_eq_nil_of_le (by omega), dec_nil, List.append_nil]

theorem decode_eq (l : List Int) (hl : bytes l) (hn : l.length ≤ 1000) (k : Nat) (hk : l.length < k) : event_Decode.f k l = some (dec l) := by
  have := decode_from l hl hn l.length k 0 [] (by omega) hk (by simp) (by omega)
  simpa [event_Decode.f] using this

/-! ### the reference's Decode -/
def conv (x : S29) : S30 := ⟨x.f0, x.f1, x.f2⟩
theorem bt_nums {l : List Int} (hl : bytes l) (i : Nat) (h : i < l.length) : bt (strOfNums l) (i : Int) = l.getD i 0 := by
  obtain ⟨b0, b1⟩ := rd_byte hl i
  have hs : i < (strOfNums l).size := by rw [strOfNums_size]; exact h
  unfold bt
  rw [dif_pos (by simpa using hs)]
  have e : (strOfNums l)[i]'hs = UInt8.ofNat (l.getD i 0).toNat := by
    show (List.map (fun n : Int => UInt8.ofNat n.toNat) l).toArray[i]'(by simpa using h) = _
    rw [List.getElem_toArray, List.getElem_map, List.getD_eq_getElem?_getD, List.getElem?_eq_getElem h]; rfl
  have e2 : ∀ (j : Nat) (hj : j < (strOfNums l).size), j = i → ((strOfNums l)[j]'hj).toNat = ((strOfNums l)[i]'hs).toNat := fun j hj hji => by subst hji; rfl
  rw [e2 _ _ (by simp), e]
  simp only [UInt8.toNat_ofNat']
  omega

theorem snoc_oneR {l : List S30} {x : S30} {r : List S30} : l ++ [x] ++ r = l ++ (x :: r) := by simp

theorem refdecode_from (l : List Int) (hl : bytes l) (hn : l.length ≤ 1000) (d : Nat) : ∀ (k i : Nat) (acc : List S30), l.length - i ≤ d → 2 * d < k → acc.length ≤ i → i ≤ l.length + 1 →
    ropelineref24_Decode.l0 k (strOfNums l) acc i = some (acc ++ (dec (l.drop i)).map conv) := by
  induction d with
  | zero =>
    intro k i acc hd hk ha hi
    obtain ⟨k, rfl⟩ : ∃ m, k = m + 1 := ⟨k - 1, by omega⟩
    have c : ¬ (i : Int) < ((strOfNums l).size : Int) := by rw [strOfNums_size]; omega
    simp only [ropelineref24_Decode.l0]
    rw [if_neg c, List.drop_eq_nil_of_le (by omega), dec_nil, List.map_nil, List.append_nil]
  | succ d ih =>
    intro k i acc hd hk ha hi
    by_cases c : i < l.length
    · obtain ⟨k, rfl⟩ : ∃ m, k = m + 2 := ⟨k - 2, by omega⟩
      have c1 : (i : Int) < ((strOfNums l).size : Int) := by rw [strOfNums_size]; omega
      have c2 : (0 : Int) ≤ (i : Int) := by omega
      obtain ⟨b0, b1⟩ := rd_byte hl i
      have hw : wrap64 ((i : Int) + 1) = ((i + 1 : Nat) : Int) := by rw [wrap_in _ (by omega)]; omega
      have hw2 : wrap64 (((i + 1 : Nat) : Int) + 1) = ((i + 2 : Nat) : Int) := by rw [wrap_in _ (by omega)]; omega
      have room : acc.length < 5864062014805 := by omega
      rw [show k + 2 = (k + 1) + 1 from rfl]
      simp only [ropelineref24_Decode.l0]
      rw [if_pos c1, if_pos c2, bt_nums hl i c, drop_at c]
      obtain ⟨b, hb⟩ : ∃ b, b = l.getD i 0 := ⟨_, rfl⟩
      rw [← hb] at b0 b1 ⊢
      have e1 : wrap64 b = b := wrap_in b (by omega)
      have e2 : Int.tmod b 6 = b % 6 := Int.tmod_eq_emod_of_nonneg b0
      have e3 : wrap64 (Int.tdiv b 6) = b / 6 := by rw [Int.tdiv_eq_ediv_of_nonneg b0, wrap_in _ (by omega)]
      rw [e1, e2, e3]
      have one_more : ∀ x : S30, ¬ b % 6 = 4 → conv (one b) = x → ropelineref24_Decode.l0 k (strOfNums l) (acc ++ [x]) ((i + 1 : Nat) : Int) = some (acc ++ (dec (b :: l.drop (i + 1))).map conv) := fun x h4 hx => by
        rw [ih k (i + 1) (acc ++ [x]) (by omega) (by omega) (by simp; omega) (by omega), dec_plain b _ h4, List.map_cons, hx, snoc_oneR]
      have plain1 : b % 6 = 0 ∨ b % 6 = 1 → ropelineref24_Decode.j1 (k + 1) (strOfNums l) acc i (b / 6) (b % 6) true = some (acc ++ (dec (b :: l.drop (i + 1))).map conv) := fun h => by
        simp only [ropelineref24_Decode.j1]
        rw [if_pos trivial, if_pos room, hw]
        exact one_more _ (by omega) (by unfold one conv; rw [if_neg (by omega), if_neg (by omega), if_neg (by omega)])
      by_cases h0 : b % 6 = 0
      · have q : (b % 6 == 0) = true := beq_iff_eq.mpr h0
        rw [if_pos h0, q]; exact plain1 (.inl h0)
      rw [if_neg h0]
      by_cases h1 : b % 6 = 1
      · have q : (b % 6 == 1) = true := beq_iff_eq.mpr h1
        rw [q]; exact plain1 (.inr h1)
      have q : (b % 6 == 1) = false := beq_eq_false_iff_ne.mpr h1
      rw [q]
      simp only [ropelineref24_Decode.j1]
      rw [if_neg Bool.false_ne_true, hw, hw2]
      by_cases h2 : b % 6 = 2
      · rw [if_pos h2, if_pos room]
        exact one_more _ (by omega) (by unfold one conv; rw [if_pos h2])
      rw [if_neg h2]
      by_cases h3 : b % 6 = 3
      · rw [if_pos h3, if_pos room]
        exact one_more _ (by omega) (by unfold one conv; rw [if_neg h2, if_pos h3])
      rw [if_neg h3]
      by_cases h4 : b % 6 = 4
      · rw [if_pos h4]
        by_cases e : i + 1 < l.length
        · have f1 : ((i + 1 : Nat) : Int) < ((strOfNums l).size : Int) := by rw [strOfNums_size]; omega
          have f2 : (0 : Int) ≤ ((i + 1 : Nat) : Int) := by omega
          obtain ⟨w0, w1⟩ := rd_byte hl (i + 1)
          have hww : wrap64 (l.getD (i + 1) 0) = l.getD (i + 1) 0 := wrap_in _ (by omega)
          rw [if_pos f1, if_pos f2, if_pos room, bt_nums hl (i + 1) e, hww, ih k (i + 2) _ (by omega) (by omega) (by simp; omega) (by omega), drop_at e, dec_try _ _ _ h4, List.map_cons, snoc_oneR]
          rfl
        · have f1 : ¬ ((i + 1 : Nat) : Int) < ((strOfNums l).size : Int) := by rw [strOfNums_size]; omega
          rw [if_neg f1, if_pos room, ih k (i + 2) _ (by omega) (by omega) (by simp; omega) (by omega), List.drop_eq_nil_of_le (show l.length ≤ i + 1 by omega), dec_last _ h4,
            List.drop_eq_nil_of_le (show l.length ≤ i + 2 by omega), dec_nil, List.map_nil, List.append_nil]
          rfl
      rw [if_neg h4]
      have h5 : b % 6 = 5 := by omega
      rw [if_pos h5, if_pos room]
      exact one_more _ h4 (by unfold one conv; rw [if_neg h2, if_neg h3, if_pos h5])
    · obtain ⟨k, rfl⟩ : ∃ m, k = m + 1 := ⟨k - 1, by omega⟩
      have c1 : ¬ (i : Int) < ((strOfNums l).size : Int) := by rw [strOfNums_size]; omega
      simp only [ropelineref24_Decode.l0]
      rw [if_neg c1, List.drop_eq_nil_of_le (by omega), dec_nil, List.map_nil, List.append_nil]

theorem refdecode_eq (l : List Int) (hl : bytes l) (hn : l.length ≤ 1000) (k : Nat) (hk : 2 * l.length < k) : ropelineref24_Decode.f k (strOfNums l) = some ((dec l).map conv) := by
  have := refdecode_from l hl hn l.length k 0 [] (by omega) hk (by simp) (by omega)
  simpa [ropelineref24_Decode.f] using this

/-! ### the document's example -/
theorem awake_eq (k : Nat) (hk : 4 < k) : ropelinelaw24_awake.f k = some true := by
  have hb : bytes [9, 2, 4, 7] := by intro x hx; simp at hx; omega
  have hd : dec [9, 2, 4, 7] = [⟨3, 1, 0⟩, ⟨2, 0, 0⟩, ⟨4, 0, 7⟩] := by
    rw [dec_plain 9 _ (by decide), dec_plain 2 _ (by decide), dec_try 4 7 _ (by decide), dec_nil]; rfl
  unfold ropelinelaw24_awake.f
  rw [decode_eq _ hb (by decide) k (by simpa using hk), hd, obind]
  rfl

/-! ### which events have bytes -/
/-- The number of a kind in a byte. -/
def num (k : Int) : Int := if k = 1 then 0 else if k = 2 then 2 else if k = 3 then 3 else if k = 4 then 4 else 5
/-- An event that has bytes. -/
def fits (x : S29) : Prop := (x.f0 = 2 ∧ x.f1 = 0 ∧ x.f2 = 0) ∨ ((x.f0 = 1 ∨ x.f0 = 3 ∨ x.f0 = 5) ∧ x.f2 = 0 ∧ 0 ≤ x.f1 ∧ x.f1 * 6 + num x.f0 ≤ 255) ∨ (x.f0 = 4 ∧ 0 ≤ x.f2 ∧ x.f2 ≤ 255 ∧ 0 ≤ x.f1 ∧ x.f1 * 6 + 4 ≤ 255)
theorem fits_mk (a t w : Int) : fits ⟨a, t, w⟩ ↔ (a = 2 ∧ t = 0 ∧ w = 0) ∨ ((a = 1 ∨ a = 3 ∨ a = 5) ∧ w = 0 ∧ 0 ≤ t ∧ t * 6 + num a ≤ 255) ∨ (a = 4 ∧ 0 ≤ w ∧ w ≤ 255 ∧ 0 ≤ t ∧ t * 6 + 4 ≤ 255) := Iff.rfl
instance (x : S29) : Decidable (fits x) := by unfold fits; infer_instance

theorem named_eq (a t w : Int) (ha : a = 1 ∨ a = 2 ∨ a = 3 ∨ a = 4 ∨ a = 5) : event_named.f a t w = some (if 0 ≤ t ∧ t * 6 + num a ≤ 255 then (t * 6 + num a, true) else (0, false)) := by
  have hc : event_code.f a = some (num a, true) := by rcases ha with rfl | rfl | rfl | rfl | rfl <;> rfl
  have hn : 0 ≤ num a ∧ num a ≤ 5 := by rcases ha with rfl | rfl | rfl | rfl | rfl <;> decide
  unfold event_named.f
  rw [hc, obind]
  by_cases h0 : t < 0
  · rw [if_pos rfl, if_pos h0, if_neg (by omega)]
  by_cases h1 : t ≥ 43
  · rw [if_pos rfl, if_neg h0, if_pos h1, if_neg (by omega)]
  have e : wrap64 (wrap64 (t * 6) + num a) = t * 6 + num a := by rw [wrap_in (t * 6) (by omega), wrap_in _ (by omega)]
  rw [if_pos rfl, if_neg h0, if_neg h1]
  show (if wrap64 (wrap64 (t * 6) + num a) ≥ 256 then _ else some (wrap64 (wrap64 (t * 6) + num a) % 256, true)) = _
  rw [e]
  by_cases h2 : t * 6 + num a ≥ 256
  · rw [if_pos h2, if_neg (by omega)]
  · rw [if_neg h2, if_pos (by omega)]; congr 2; omega
theorem named_no (a t w : Int) (ha : ¬ (a = 1 ∨ a = 2 ∨ a = 3 ∨ a = 4 ∨ a = 5)) : event_named.f a t w = some (0, false) := by
  have hc : event_code.f a = some (0, false) := by
    unfold event_code.f
    rw [if_neg (by omega), if_neg (by omega), if_neg (by omega), if_neg (by omega), if_neg (by omega)]
  unfold event_named.f
  rw [hc, obind]
  rfl

theorem right_eq (x : S29) : event_Right.f x.f0 x.f1 x.f2 = some (decide (fits x)) := by
  obtain ⟨a, t, w⟩ := x
  show event_Right.f a t w = some (decide (fits ⟨a, t, w⟩))
  unfold event_Right.f
  by_cases h2 : a = 2
  · subst h2
    rw [if_pos rfl]
    congr 1
    rw [Bool.eq_iff_iff]
    simp [fits]
  rw [if_neg h2]
  by_cases h4 : a = 4
  · subst h4
    rw [if_pos rfl]
    by_cases w0 : w < 0
    · rw [if_pos w0, decide_eq_false (by simp [fits]; omega)]
    by_cases w1 : w ≥ 256
    · rw [if_neg w0, if_pos w1, decide_eq_false (by simp [fits]; omega)]
    rw [if_neg w0, if_neg w1, named_eq 4 t w (by omega), obind]
    by_cases c : 0 ≤ t ∧ t * 6 + num 4 ≤ 255
    · rw [if_pos c, decide_eq_true]; simp [fits, num] at c ⊢; omega
    · rw [if_neg c, decide_eq_false]; simp [fits, num] at c ⊢; omega
  rw [if_neg h4]
  by_cases w0 : w = 0
  · rw [if_pos w0]
    by_cases ha : a = 1 ∨ a = 2 ∨ a = 3 ∨ a = 4 ∨ a = 5
    · rw [named_eq a t w ha, obind]
      by_cases c : 0 ≤ t ∧ t * 6 + num a ≤ 255
      · rw [if_pos c, decide_eq_true]; exact (fits_mk a t w).mpr (.inr (.inl ⟨by omega, w0, c.1, c.2⟩))
      · rw [if_neg c, decide_eq_false]; rw [fits_mk]; omega
    · rw [named_no a t w ha, obind, decide_eq_false]; rw [fits_mk]; omega
  · rw [if_neg w0, decide_eq_false]; rw [fits_mk]; omega

theorem refright_eq (x : S29) (k : Nat) (hk : 0 < k) : ropelineref24_Right.f k x.f0 x.f1 x.f2 = some (decide (fits x)) := by
  obtain ⟨k, rfl⟩ : ∃ m, k = m + 1 := ⟨k - 1, by omega⟩
  obtain ⟨a, t, w⟩ := x
  show ropelineref24_Right.f (k + 1) a t w = some (decide (fits ⟨a, t, w⟩))
  have hj : ropelineref24_Right.j0 (k + 1) true a t w = some false := by simp only [ropelineref24_Right.j0]; rw [if_pos trivial]
  unfold ropelineref24_Right.f
  by_cases h2 : a = 2
  · rw [if_pos h2]
    by_cases t0 : t = 0
    · rw [if_pos t0]; congr 1; rw [Bool.eq_iff_iff]; subst h2 t0; simp [fits]
    · rw [if_neg t0, decide_eq_false]; simp [fits]; omega
  rw [if_neg h2]
  by_cases t0 : t < 0
  · rw [if_pos t0, hj, decide_eq_false]; rw [fits_mk]; omega
  rw [if_neg t0]
  by_cases t1 : t > 42
  · have hn : 0 ≤ num a := by unfold num; split <;> (try split) <;> (try split) <;> (try split) <;> decide
    rw [if_pos t1, hj, decide_eq_false]; rw [fits_mk]; omega
  rw [if_neg t1]
  by_cases a0 : a < 1
  · rw [if_pos a0, hj, decide_eq_false]; rw [fits_mk]; omega
  rw [if_neg a0]
  by_cases a1 : a > 5
  · rw [decide_eq_true a1, hj, decide_eq_false]; rw [fits_mk]; omega
  rw [decide_eq_false a1]
  simp only [ropelineref24_Right.j0]
  rw [if_neg Bool.false_ne_true]
  have e4 : wrap64 (wrap64 (t * 6) + 4) = t * 6 + 4 := by rw [wrap_in (t * 6) (by omega), wrap_in _ (by omega)]
  have e5 : wrap64 (wrap64 (t * 6) + 5) = t * 6 + 5 := by rw [wrap_in (t * 6) (by omega), wrap_in _ (by omega)]
  rw [e4, e5]
  by_cases h4 : a = 4
  · subst h4
    rw [if_pos rfl]
    by_cases w0 : w ≥ 0
    · by_cases w1 : w ≤ 255
      · rw [if_pos w0, if_pos w1]; congr 1; rw [Bool.eq_iff_iff]; simp [fits]; omega
      · rw [if_pos w0, if_neg w1, decide_eq_false]; simp [fits]; omega
    · rw [if_neg w0, decide_eq_false]; simp [fits]; omega
  rw [if_neg h4]
  by_cases h5 : a = 5
  · subst h5
    rw [if_pos rfl]
    by_cases c : t * 6 + 5 > 255
    · rw [if_pos c, decide_eq_false]; simp [fits, num]; omega
    · rw [if_neg c]; congr 1; rw [Bool.eq_iff_iff]; simp [fits, num]; omega
  rw [if_neg h5]
  congr 1
  rw [Bool.eq_iff_iff]
  have : a = 1 ∨ a = 3 := by omega
  rcases this with rfl | rfl <;> simp [fits, num] <;> omega

/-! ### what is decoded has bytes -/
theorem one_fits (b : Int) (h0 : 0 ≤ b) (h1 : b ≤ 255) : fits (one b) := by
  unfold one
  split
  · exact .inl ⟨rfl, rfl, rfl⟩
  split
  · exact .inr (.inl ⟨.inr (.inl rfl), rfl, by show 0 ≤ b / 6; omega, by show b / 6 * 6 + 3 ≤ 255; omega⟩)
  split
  · exact .inr (.inl ⟨.inr (.inr rfl), rfl, by show 0 ≤ b / 6; omega, by show b / 6 * 6 + 5 ≤ 255; omega⟩)
  · exact .inr (.inl ⟨.inl rfl, rfl, by show 0 ≤ b / 6; omega, by show b / 6 * 6 + 0 ≤ 255; omega⟩)
theorem dec_fits (l : List Int) (hl : bytes l) : ∀ x ∈ dec l, fits x := by
  match l, hl with
  | [], _ => intro x hx; rw [dec_nil] at hx; cases hx
  | [b], hl =>
    have hb := hl b (by simp)
    intro x hx
    rw [dec] at hx
    split at hx
    · rw [List.mem_singleton.1 hx]; exact .inr (.inr ⟨rfl, by show (0 : Int) ≤ 0; omega, by show (0 : Int) ≤ 255; omega, by show 0 ≤ b / 6; omega, by show b / 6 * 6 + 4 ≤ 255; omega⟩)
    · rw [List.mem_singleton.1 hx]; exact one_fits b hb.1 hb.2
  | b :: w :: r, hl =>
    have hb := hl b (by simp)
    have hw := hl w (by simp)
    intro x hx
    rw [dec] at hx
    split at hx
    · rcases List.mem_cons.1 hx with rfl | hx
      · exact .inr (.inr ⟨rfl, hw.1, hw.2, by show 0 ≤ b / 6; omega, by show b / 6 * 6 + 4 ≤ 255; omega⟩)
      · exact dec_fits r (fun y hy => hl y (by simp [hy])) x hx
    · rcases List.mem_cons.1 hx with rfl | hx
      · exact one_fits b hb.1 hb.2
      · exact dec_fits (w :: r) (fun y hy => hl y (List.mem_cons_of_mem _ hy)) x hx

/-! ### Encode -/
/-- The bytes of an event. -/
def enc1 (x : S29) : List Int := if x.f0 = 4 then [x.f1 * 6 + 4, x.f2] else [x.f1 * 6 + num x.f0]
def enc (l : List S29) : List Int := l.flatMap enc1
theorem enc_cons (x : S29) (l : List S29) : enc (x :: l) = enc1 x ++ enc l := by simp [enc]
theorem enc_append (l m : List S29) : enc (l ++ m) = enc l ++ enc m := by simp [enc]
theorem enc1_bytes (x : S29) (h : fits x) : bytes (enc1 x) := by
  intro y hy
  unfold enc1 at hy
  rcases h with ⟨h0, h1, h2⟩ | ⟨h0, h1, h2, h3⟩ | ⟨h0, h1, h2, h3, h4⟩
  · rw [if_neg (by omega)] at hy
    rw [List.mem_singleton.1 hy, h0, h1]; decide
  · have hn : 0 ≤ num x.f0 := by rcases h0 with h0 | h0 | h0 <;> rw [h0] <;> decide
    rw [if_neg (by omega)] at hy
    rw [List.mem_singleton.1 hy]; omega
  · rw [if_pos h0] at hy
    simp at hy
    omega
theorem enc_bytes (l : List S29) (h : ∀ x ∈ l, fits x) : bytes (enc l) := by
  induction l with
  | nil => intro y hy; simp [enc] at hy
  | cons x l ih =>
    rw [enc_cons]
    intro y hy
    rcases List.mem_append.1 hy with hy | hy
    · exact enc1_bytes x (h x (by simp)) y hy
    · exact ih (fun z hz => h z (by simp [hz])) y hy
theorem enc_length (l : List S29) : (enc l).length ≤ 2 * l.length := by
  induction l with
  | nil => simp [enc]
  | cons x l ih =>
    rw [enc_cons, List.length_append, List.length_cons]
    have : (enc1 x).length ≤ 2 := by unfold enc1; split <;> simp
    omega
theorem dec_enc1 (x : S29) (h : fits x) (r : List Int) : dec (enc1 x ++ r) = x :: dec r := by
  unfold enc1
  rcases h with ⟨h0, h1, h2⟩ | ⟨h0, h1, h2, h3⟩ | ⟨h0, h1, h2, h3, h4⟩
  · rw [if_neg (by omega), List.singleton_append]
    have e : x.f1 * 6 + num x.f0 = 2 := by rw [h0, h1]; rfl
    rw [e, dec_plain 2 r (by decide)]
    have : one 2 = x := s29_ext h0.symm h1.symm h2.symm
    rw [this]
  · rw [if_neg (by omega), List.singleton_append]
    have hn : num x.f0 = 0 ∨ num x.f0 = 3 ∨ num x.f0 = 5 := by rcases h0 with h0 | h0 | h0 <;> rw [h0] <;> decide
    rw [dec_plain _ r (by omega)]
    have : one (x.f1 * 6 + num x.f0) = x := by
      unfold one
      rcases h0 with h0 | h0 | h0
      · have e : num x.f0 = 0 := by rw [h0]; rfl
        rw [if_neg (by omega), if_neg (by omega), if_neg (by omega)]
        exact s29_ext h0.symm (by show (x.f1 * 6 + num x.f0) / 6 = x.f1; omega) h1.symm
      · have e : num x.f0 = 3 := by rw [h0]; rfl
        rw [if_neg (by omega), if_pos (by omega)]
        exact s29_ext h0.symm (by show (x.f1 * 6 + num x.f0) / 6 = x.f1; omega) h1.symm
      · have e : num x.f0 = 5 := by rw [h0]; rfl
        rw [if_neg (by omega), if_neg (by omega), if_pos (by omega)]
        exact s29_ext h0.symm (by show (x.f1 * 6 + num x.f0) / 6 = x.f1; omega) h1.symm
    rw [this]
  · rw [if_pos h0, List.cons_append, List.singleton_append, dec_try _ _ r (by omega)]
    have : (⟨4, (x.f1 * 6 + 4) / 6, x.f2⟩ : S29) = x := s29_ext h0.symm (by show (x.f1 * 6 + 4) / 6 = x.f1; omega) rfl
    rw [this]
theorem dec_enc (l : List S29) (h : ∀ x ∈ l, fits x) (r : List Int) : dec (enc l ++ r) = l ++ dec r := by
  induction l with
  | nil => simp [enc]
  | cons x l ih => rw [enc_cons, List.append_assoc, dec_enc1 x (h x (by simp)), ih (fun z hz => h z (by simp [hz]))]; rfl

/-- Which event has no bytes first; as many as there are, if all have some. -/
def bad (l : List S29) : Nat := l.findIdx (fun x => !decide (fits x))
theorem before_bad {l : List S29} {i : Nat} (h : i < bad l) (hl : i < l.length) : fits l[i] := by
  have := List.not_of_lt_findIdx (p := fun x => !decide (fits x)) (xs := l) h
  simpa using this
theorem at_bad {l : List S29} (h : bad l < l.length) : ¬ fits l[bad l] := by
  have := List.findIdx_getElem (p := fun x => !decide (fits x)) (xs := l) (w := h)
  intro hf
  have e : (!decide (fits l[bad l])) = true := this
  rw [decide_eq_true hf] at e
  exact Bool.false_ne_true e
theorem rdT_nat (l : List S29) (i : Nat) (h : i < l.length) : rd_T29 l (i : Int) = l[i] := by
  unfold rd_T29
  rw [show ((i : Int)).toNat = i by simp, List.getD_eq_getElem?_getD, List.getElem?_eq_getElem h]; rfl
theorem take_snoc {l : List S29} {i : Nat} (h : i < l.length) : enc (l.take (i + 1)) = enc (l.take i) ++ enc1 l[i] := by
  rw [List.take_succ_eq_append_getElem h, enc_append]; simp [enc]

theorem encode_from (l : List S29) (hn : l.length ≤ 1000) (d : Nat) : ∀ (k i : Nat), l.length - i ≤ d → d < k → i ≤ l.length → i ≤ bad l →
    event_Encode.l0 k l (enc (l.take i)) l (l.length : Int) i = some (if bad l < l.length then ([], (bad l : Int), 8) else (enc l, (l.length : Int), 0)) := by
  have hbl : bad l ≤ l.length := List.findIdx_le_length
  induction d with
  | zero =>
    intro k i hd hk hi hbad
    obtain ⟨k, rfl⟩ : ∃ m, k = m + 1 := ⟨k - 1, by omega⟩
    have c : ¬ (i : Int) < (l.length : Int) := by omega
    simp only [event_Encode.l0]
    rw [if_neg c, if_neg (by omega), List.take_of_length_le (by omega)]
  | succ d ih =>
    intro k i hd hk hi hbad
    obtain ⟨k, rfl⟩ : ∃ m, k = m + 1 := ⟨k - 1, by omega⟩
    by_cases c : i < l.length
    · have c1 : (i : Int) < (l.length : Int) := by omega
      have c2 : (0 : Int) ≤ (i : Int) := by omega
      have hw : wrap64 ((i : Int) + 1) = ((i + 1 : Nat) : Int) := by rw [wrap_in _ (by omega)]; omega
      simp only [event_Encode.l0]
      rw [if_pos c1, if_pos c2, if_pos c1, rdT_nat l i c, right_eq, obind, hw]
      have hlen := enc_length (l.take i)
      have hti : (l.take i).length ≤ 1000 := by rw [List.length_take]; omega
      by_cases hf : fits l[i]
      · rw [if_pos (decide_eq_true hf)]
        have hnext : i + 1 ≤ bad l := by
          rcases Nat.lt_or_ge i (bad l) with h | h
          · omega
          · have e : bad l = i := by omega
            have hlt : bad l < l.length := by omega
            have e2 : l[bad l] = l[i] := by simp [e]
            exact absurd (show fits l[bad l] by rw [e2]; exact hf) (at_bad hlt)
        have ha : l[i].f0 = 1 ∨ l[i].f0 = 2 ∨ l[i].f0 = 3 ∨ l[i].f0 = 4 ∨ l[i].f0 = 5 := by
          rcases hf with ⟨h0, _⟩ | ⟨h0, _⟩ | ⟨h0, _⟩ <;> omega
        have hin : 0 ≤ l[i].f1 ∧ l[i].f1 * 6 + num l[i].f0 ≤ 255 := by
          rcases hf with ⟨h0, h1, h2⟩ | ⟨h0, h1, h2, h3⟩ | ⟨h0, h1, h2, h3, h4⟩
          · rw [h0, h1]; decide
          · exact ⟨h2, h3⟩
          · refine ⟨h3, ?_⟩; rw [h0]; exact h4
        rw [named_eq _ _ _ ha, obind, if_pos hin, if_pos (by omega), obind]
        have hih := ih k (i + 1) (by omega) (by omega) (by omega) hnext
        rw [take_snoc c] at hih
        unfold enc1 at hih
        by_cases h4 : l[i].f0 = 4
        · have e4 : num l[i].f0 = 4 := by rw [h4]; rfl
          have hwait : l[i].f2 % 256 = l[i].f2 := by
            rcases hf with ⟨h0, _⟩ | ⟨h0, _⟩ | ⟨h0, h1, h2, _⟩
            · omega
            · omega
            · omega
          rw [if_pos h4] at hih
          rw [if_pos h4, if_pos (by rw [List.length_append, List.length_singleton]; omega), hwait, List.append_assoc, List.singleton_append]
          show event_Encode.l0 k l (enc (l.take i) ++ [l[i].f1 * 6 + num l[i].f0, l[i].f2]) l _ _ = _
          rw [e4]
          exact hih
        · rw [if_neg h4] at hih
          rw [if_neg h4]
          exact hih
      · rw [if_neg (by rw [decide_eq_false hf]; exact Bool.false_ne_true)]
        have hbe : bad l = i := by
          rcases Nat.lt_or_ge i (bad l) with h | h
          · exact absurd (before_bad h c) hf
          · omega
        rw [if_pos (by omega), hbe]
    · have c1 : ¬ (i : Int) < (l.length : Int) := by omega
      simp only [event_Encode.l0]
      rw [if_neg c1, if_neg (by omega), List.take_of_length_le (by omega)]

theorem encode_eq (l : List S29) (hn : l.length ≤ 1000) (k : Nat) (hk : l.length < k) :
    event_Encode.f k l = some (if bad l < l.length then ([], (bad l : Int), 8) else (enc l, (l.length : Int), 0)) := by
  have := encode_from l hn l.length k 0 (by omega) hk (by omega) (by omega)
  simpa [event_Encode.f, enc] using this
theorem all_fit {l : List S29} (h : ¬ bad l < l.length) : ∀ x ∈ l, fits x := by
  intro x hx
  have : l.findIdx (fun x => !decide (fits x)) = l.length := by have := List.findIdx_le_length (p := fun x => !decide (fits x)) (xs := l); unfold bad at h; omega
  have h2 := List.findIdx_eq_length.1 this x hx
  simpa using h2
end Go.Proofs.Ytmlpbhgdlociiaa.Ev
