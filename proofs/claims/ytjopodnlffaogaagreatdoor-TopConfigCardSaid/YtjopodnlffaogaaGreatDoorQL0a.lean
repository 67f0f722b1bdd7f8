/- A part of the proof of TopConfig: TpSteady, TpSteady2, TpMem, TpPool, TpPermit, TpPark, TpExec0. -/
import Derived.Test.YtjopodnlffaogaaGreatDoorQL0
import Derived.OrdersHeld
import Derived.RowKit
import Derived.Carry
section
namespace Go.Proofs.YtjopodnlffaogaaGreatDoor.Tp
set_option linter.unusedVariables false
section
variable {P : Program} {ops : Array Oper} {Q : Exit → Act → World → Prop}
def awaits (o : Oper) (j : Nat) : Bool := o.after.any fun e => Region.binds .any e && e.on == j
structure Sees (ops : Array Oper) (a : Act) (T : Nat → Value → World → Prop) (J : World → Prop) (o : Oper) (a' : Act) (w' : World) : Prop where
  inv : J w'
  defers : a'.defers = a.defers
  out : ∀ s, (ops.all fun o' => o'.dst != some s) = true → a'.tmps[s]? = a.tmps[s]?
  dep : ∀ j s, awaits o j = true → (ops[j]?).bind (·.dst) = some s → ∃ v, a'.tmps[s]? = some v ∧ T j v w'
  dep0 : ∀ j, awaits o j = true → (ops[j]?).isSome = true → ∃ v, T j v w'
def Ob (P : Program) (ops : Array Oper) (Q : Exit → Act → World → Prop) (a : Act) (T : Nat → Value → World → Prop) (J : World → Prop) (i : Nat) (o : Oper) : Prop :=
  ∀ a' w', Sees ops a T J o a' w' → if Region.wanted o (yielded ops a'.tmps) = true then o.wp P a' w' (fun a'' w'' => ∃ v, a'' = a'.put o.dst v ∧ J w'' ∧ T i v w'' ∧ ∀ j u, T j u w' → T j u w'') Q else T i undef w'
def ObL (P : Program) (ops : Array Oper) (Q : Exit → Act → World → Prop) (a : Act) (T : Nat → Value → World → Prop) (J : World → Prop) : Nat → List Oper → Prop
  | _, [] => True
  | i, o :: l => Ob P ops Q a T J i o ∧ ObL P ops Q a T J (i + 1) l
theorem obL_get {a : Act} {T : Nat → Value → World → Prop} {J : World → Prop} : ∀ {l : List Oper} {k : Nat}, ObL P ops Q a T J k l → ∀ {m : Nat} {o : Oper}, l[m]? = some o → Ob P ops Q a T J (k + m) o
  | [], k, _, m, o, ho => by simp at ho
  | x :: l, k, h, 0, o, ho => by
    simp at ho
    subst ho
    exact h.1
  | x :: l, k, h, m + 1, o, ho => by
    have := obL_get h.2 (m := m) (by simpa using ho)
    rw [show k + (m + 1) = k + 1 + m by omega]
    exact this
def putV (a : Act) : List Oper → Nat → (Nat → Value) → Act
  | [], _, _ => a
  | o :: l, k, vs => putV (a.put o.dst (vs k)) l (k + 1) vs
theorem put_size (a : Act) (d : Option Tmp) (v : Value) : (a.put d v).tmps.size = a.tmps.size := by
  cases d <;> simp [Act.put]
theorem put_at (a : Act) (d : Option Tmp) (v : Value) (s : Nat) : (a.put d v).tmps[s]? = if d = some s ∧ s < a.tmps.size then some v else a.tmps[s]? := by
  cases d with
  | none => simp [Act.put]
  | some t =>
    simp only [Act.put, Option.some.injEq]
    by_cases h : t = s
    · subst h
      by_cases h2 : t < a.tmps.size
      · simp [h2]
      · simp [h2]
    · rw [Array.getElem?_setIfInBounds_ne h, if_neg (fun h2 => h h2.1)]
theorem put_defers (a : Act) (d : Option Tmp) (v : Value) : (a.put d v).defers = a.defers := by
  cases d <;> rfl
theorem putV_defers : ∀ (l : List Oper) (a : Act) (k : Nat) (vs : Nat → Value), (putV a l k vs).defers = a.defers
  | [], a, k, vs => rfl
  | o :: l, a, k, vs => by rw [putV, putV_defers, put_defers]
theorem putV_out : ∀ (l : List Oper) (a : Act) (k : Nat) (vs : Nat → Value) (s : Nat), (∀ o ∈ l, o.dst ≠ some s) → (putV a l k vs).tmps[s]? = a.tmps[s]?
  | [], a, k, vs, s, _ => rfl
  | o :: l, a, k, vs, s, h => by
    rw [putV, putV_out l _ _ _ s (fun o ho => h o (List.mem_cons_of_mem _ ho)), put_at, if_neg (fun h2 => h o List.mem_cons_self h2.1)]
theorem putV_at : ∀ (l : List Oper) (a : Act) (k : Nat) (vs : Nat → Value) (s m : Nat) (o : Oper), l[m]? = some o → o.dst = some s → s < a.tmps.size → (∀ m' o', l[m']? = some o' → o'.dst = some s → m' = m) → (putV a l k vs).tmps[s]? = some (vs (k + m))
  | [], a, k, vs, s, m, o, h, _, _, _ => by simp at h
  | x :: l, a, k, vs, s, 0, o, h, hd, hs, hu => by
    simp at h
    subst h
    rw [putV, putV_out l _ _ _ s (fun o' ho' hd' => by
      obtain ⟨m, hm⟩ := List.getElem?_of_mem ho'
      have := hu (m + 1) o' (by simpa using hm) hd'
      omega), put_at, if_pos ⟨hd, hs⟩]
    rfl
  | x :: l, a, k, vs, s, m + 1, o, h, hd, hs, hu => by
    rw [putV, putV_at l _ _ _ s m o (by simpa using h) hd (by rw [put_size]; exact hs) (fun m' o' h1 h2 => by
      have := hu (m' + 1) o' (by simpa using h1) h2
      omega)]
    rw [show k + 1 + m = k + (m + 1) by omega]
def steadyB (ops : Array Oper) (n : Nat) : Bool := (List.range ops.size).all fun j => match ops[j]? with
  | some o => (o.after.all fun e => !Region.binds .any e || Nat.blt e.on j) && (match o.dst with
    | some s => Nat.blt s n && (List.range ops.size).all fun k => Nat.beq k j || (match ops[k]? with
      | some o' => o'.dst != some s
      | none => true)
    | none => true)
  | none => true
structure Steady (ops : Array Oper) (n : Nat) : Prop where
  back : ∀ (j : Nat) (o : Oper), ops[j]? = some o → ∀ e ∈ o.after, Region.binds .any e = true → e.on < j
  lt : ∀ (j : Nat) (o : Oper) (s : Nat), ops[j]? = some o → o.dst = some s → s < n
  once : ∀ (j k : Nat) (o o' : Oper) (s : Nat), ops[j]? = some o → ops[k]? = some o' → o.dst = some s → o'.dst = some s → k = j
theorem steadyB_spec {n : Nat} (h : steadyB ops n = true) : Steady ops n := by
  have h1 : ∀ j o, ops[j]? = some o → _ := fun j o hj => List.all_eq_true.1 h j (List.mem_range.2 (Array.getElem?_eq_some_iff.1 hj).1)
  refine ⟨fun j o hj e he hb => ?_, fun j o s hj hd => ?_, fun j k o o' s hj hk hd hd' => ?_⟩
  · have := h1 j o hj
    simp only [hj, Bool.and_eq_true] at this
    have := Array.all_eq_true_iff_forall_mem.1 this.1 e he
    simpa [hb, Nat.blt_eq] using this
  · have := h1 j o hj
    simp only [hj, hd, Bool.and_eq_true, Nat.blt_eq] at this
    exact this.2.1
  · have := h1 j o hj
    simp only [hj, hd, Bool.and_eq_true, Nat.blt_eq] at this
    have := List.all_eq_true.1 this.2.2 k (List.mem_range.2 (Array.getElem?_eq_some_iff.1 hk).1)
    simp only [hk, Bool.or_eq_true] at this
    rcases this with h2 | h2
    · exact Nat.eq_of_beq_eq_true h2
    · simp [hd'] at h2
structure Sty (ops : Array Oper) (a : Act) (T : Nat → Value → World → Prop) (J : World → Prop) (listed : Array Bool) (a' : Act) (w' : World) : Prop where
  inv : J w'
  defers : a'.defers = a.defers
  size : a'.tmps.size = a.tmps.size
  lsize : listed.size = ops.size
  out : ∀ s, (∀ j o, ops[j]? = some o → listed.getD j false = true → o.dst ≠ some s) → a'.tmps[s]? = a.tmps[s]?
  vals : ∀ j o, ops[j]? = some o → listed.getD j false = true → ∃ v, (∀ s, o.dst = some s → a'.tmps[s]? = some v) ∧ T j v w'
theorem getD_any {l : Array Bool} {j : Nat} (h : j < l.size) : l.getD j true = l.getD j false := by simp [h]
theorem Sty.sees {a : Act} {T : Nat → Value → World → Prop} {J : World → Prop} {listed : Array Bool} {a' : Act} {w' : World} (h : Sty ops a T J listed a' w') {o : Oper} (hd : ∀ e ∈ o.after, Region.binds .any e = true → listed.getD e.on false = true) : Sees ops a T J o a' w' := by
  have key : ∀ j, awaits o j = true → listed.getD j false = true := fun j hj => by
    obtain ⟨e, he, h1⟩ := Array.any_eq_true'.1 hj
    simp only [Bool.and_eq_true, beq_iff_eq] at h1
    rw [← h1.2]
    exact hd e he h1.1
  refine ⟨h.inv, h.defers, fun s hs => h.out s fun j o' hj _ hd' => ?_, fun j s hj hs => ?_, fun j hj hs => ?_⟩
  · have hm : o' ∈ ops := Array.mem_of_getElem? hj
    have := Array.all_eq_true_iff_forall_mem.1 hs o' hm
    simp [hd'] at this
  · cases ho : ops[j]? with
    | none => rw [ho] at hs; cases hs
    | some o' =>
      rw [ho] at hs
      obtain ⟨v, h1, h2⟩ := h.vals j o' ho (key j hj)
      exact ⟨v, h1 s hs, h2⟩
  · cases ho : ops[j]? with
    | none => rw [ho] at hs; cases hs
    | some o' =>
      obtain ⟨v, h1, h2⟩ := h.vals j o' ho (key j hj)
      exact ⟨v, h2⟩
def left (n : Nat) (listed : Array Bool) : Nat := (List.range n).countP fun j => !listed.getD j false
theorem left_set {n i : Nat} {listed : Array Bool} (hi : i < n) (hl : i < listed.size) (hun : listed.getD i false = false) : left n (listed.setIfInBounds i true) + 1 = left n listed := by
  unfold left
  induction n with
  | zero => omega
  | succ n ih =>
    rw [List.range_succ, List.countP_append, List.countP_append]
    by_cases h : i = n
    · subst h
      have e : (List.range i).countP (fun j => !(listed.setIfInBounds i true).getD j false) = (List.range i).countP (fun j => !listed.getD j false) := by
        apply List.countP_congr
        intro j hj
        have hji := List.mem_range.1 hj
        rw [getD_set_ne false (by omega)]
      rw [e]
      have e1 : (listed.setIfInBounds i true).getD i false = true := by simp [hl]
      simp only [List.countP_cons, List.countP_nil, e1, hun]
      simp
    · have := ih (by omega)
      have e1 : (listed.setIfInBounds i true).getD n false = listed.getD n false := getD_set_ne false h
      simp only [List.countP_cons, List.countP_nil, e1]
      omega
theorem all_of_left {n : Nat} {listed : Array Bool} (h : left n listed = 0) : ∀ j, j < n → listed.getD j false = true := fun j hj => by
  unfold left at h
  rw [List.countP_eq_zero] at h
  have := h j (List.mem_range.2 hj)
  simpa using this
theorem all_of_ready {n : Nat} (hS : Steady ops n) {listed : Array Bool} (hl : listed.size = ops.size) (hr : Region.ready .any ops listed = []) : ∀ j, j < ops.size → listed.getD j false = true := by
  intro j
  induction j using Nat.strongRecOn with
  | _ j ih =>
    intro hj
    cases hq : listed.getD j false with
    | true => rfl
    | false =>
      exfalso
      have ho : ops[j]? = some ops[j] := Array.getElem?_eq_getElem hj
      have : j ∈ Region.ready .any ops listed := mem_ready.2 ⟨by rw [getD_any (by omega)]; exact hq, ops[j], ho, fun e he hb => ih e.on (hS.back j _ ho e he hb) (by have := hS.back j _ ho e he hb; omega)⟩
      rw [hr] at this
      cases this
theorem ob_ok {a : Act} {T : Nat → Value → World → Prop} {J : World → Prop} {i : Nat} {o : Oper} (hg : o.guard = none) (h : ∀ a' w', Sees ops a T J o a' w' → ∃ v w'', (execOp a'.eval o).run P w' = .ok (.value v) w'' ∧ J w'' ∧ T i v w'' ∧ ∀ j u, T j u w' → T j u w'') : Ob P ops Q a T J i o := by
  intro a' w' hs
  have hw : Region.wanted o (yielded ops a'.tmps) = true := by simp [Region.wanted, hg]
  rw [if_pos hw]
  obtain ⟨v, w'', h1, h2, h3, h4⟩ := h a' w' hs
  unfold Oper.wp
  rw [h1]
  exact ⟨v, rfl, h2, h3, h4⟩
def reachesB (ops : Array Oper) (j : Nat) : Nat → Nat → Bool
  | 0, _ => false
  | fuel + 1, d => match ops[d]? with
    | some o => o.after.any fun e => Region.binds .any e && (e.on == j || reachesB ops j fuel e.on)
    | none => false
theorem reaches_listed {listed : Array Bool} (hc : ∀ (j : Nat) (o : Oper), ops[j]? = some o → listed.getD j false = true → ∀ e ∈ o.after, Region.binds .any e = true → listed.getD e.on false = true) {j : Nat} : ∀ (fuel d : Nat) (o : Oper), ops[d]? = some o → (∀ e ∈ o.after, Region.binds .any e = true → listed.getD e.on false = true) → reachesB ops j fuel d = true → listed.getD j false = true
  | 0, _, _, _, _, h => by simp [reachesB] at h
  | fuel + 1, d, o, ho, hd, h => by
    unfold reachesB at h
    rw [ho] at h
    obtain ⟨e, he, h1⟩ := Array.any_eq_true'.1 h
    simp only [Bool.and_eq_true, Bool.or_eq_true, beq_iff_eq] at h1
    have hle := hd e he h1.1
    rcases h1.2 with h2 | h2
    · rw [← h2]; exact hle
    · cases ho2 : ops[e.on]? with
      | none =>
        cases fuel with
        | zero => simp [reachesB] at h2
        | succ n => unfold reachesB at h2; rw [ho2] at h2; cases h2
      | some o2 => exact reaches_listed hc fuel e.on o2 ho2 (fun e' he' hb' => hc e.on o2 ho2 hle e' he' hb') h2
theorem wpAny_steadyL {a : Act} {T : Nat → Value → World → Prop} {J : World → Prop} {init : List Oper} {last : Oper} (hops : ops.toList = init ++ [last]) (hS : Steady ops a.tmps.size) (hlast : ∀ j, j < init.length → reachesB ops j ops.size init.length = true) (hob : ∀ i o, init[i]? = some o → Ob P ops Q a T J i o) (hg : last.guard = none)
    (hcont : ∀ (vs : Nat → Value) w', J w' → (∀ i o, init[i]? = some o → T i (vs i) w') → last.wp P (putV a init 0 vs) w' (fun a'' w'' => Q .normal a'' w'') Q) :
    ∀ (fuel : Nat) (listed : Array Bool) (a' : Act) (w' : World), left ops.size listed ≤ fuel → listed.getD init.length false = false → (∀ (j : Nat) (o : Oper), ops[j]? = some o → listed.getD j false = true → ∀ e ∈ o.after, Region.binds .any e = true → listed.getD e.on false = true) → Sty ops a T J listed a' w' → wpAny P .any ops Q fuel listed a' w' := by
  have hsz : ops.size = init.length + 1 := by
    have := congrArg List.length hops
    simpa using this
  have hat : ∀ m, ops[m]? = (init ++ [last])[m]? := fun m => by rw [← Array.getElem?_toList, hops]
  have hatI : ∀ m o, init[m]? = some o → ops[m]? = some o := fun m o h => by
    rw [hat, List.getElem?_append_left (List.getElem?_eq_some_iff.1 h).1]; exact h
  have hatL : ops[init.length]? = some last := by rw [hat]; simp
  have hback : ∀ m o, ops[m]? = some o → m ≠ init.length → init[m]? = some o := fun m o h hne => by
    have hlt := (Array.getElem?_eq_some_iff.1 h).1
    rw [hat, List.getElem?_append_left (by omega)] at h
    exact h
  intro fuel
  induction fuel with
  | zero =>
    intro listed a' w' hle hun _ h
    have hall := all_of_left (n := ops.size) (listed := listed) (by omega) init.length (by omega)
    rw [hall] at hun
    cases hun
  | succ fuel ih =>
    intro listed a' w' hle hun hcl h
    refine ⟨fun hr => ?_, fun i hi => ?_⟩
    · have := all_of_ready hS h.lsize hr init.length (by omega)
      rw [this] at hun
      cases hun
    obtain ⟨h0, o, ho, hd⟩ := mem_ready.1 hi
    have hlt := (Array.getElem?_eq_some_iff.1 ho).1
    have huni : listed.getD i false = false := by rw [← getD_any (by rw [h.lsize]; exact hlt)]; exact h0
    have hlt2 : i < listed.size := by rw [h.lsize]; exact hlt
    by_cases hil : i = init.length
    · subst hil
      rw [hatL] at ho
      cases ho
      have hall : ∀ j, j < init.length → listed.getD j false = true := fun j hj => reaches_listed hcl _ _ _ hatL hd (hlast j hj)
      have hv : ∀ j : Nat, ∃ v : Value, ∀ o : Oper, init[j]? = some o → (∀ s, o.dst = some s → a'.tmps[s]? = some v) ∧ T j v w' := fun j => by
        cases hj : init[j]? with
        | none => exact ⟨undef, fun o h => by cases h⟩
        | some o =>
          obtain ⟨v, h1, h2⟩ := h.vals j o (hatI j o hj) (hall j (List.getElem?_eq_some_iff.1 hj).1)
          exact ⟨v, fun o' ho' => by cases ho'; exact ⟨h1, h2⟩⟩
      have e1 : a'.tmps = (putV a init 0 fun j => Classical.choose (hv j)).tmps := by
        apply Array.ext_getElem?
        intro s
        by_cases hs : ∃ (j : Nat) (o : Oper), init[j]? = some o ∧ o.dst = some s
        · obtain ⟨j, o, ho, hds⟩ := hs
          rw [(Classical.choose_spec (hv j) o ho).1 s hds, putV_at init a 0 _ s j o ho hds (hS.lt j o s (hatI j o ho) hds) (fun m' o' h1 h2 => hS.once j m' o o' s (hatI j o ho) (hatI m' o' h1) hds h2), Nat.zero_add]
        · rw [h.out s fun j o ho hl hds => hs ⟨j, o, hback j o ho (fun e => by rw [e, hun] at hl; cases hl), hds⟩, putV_out]
          intro o ho hds
          obtain ⟨m, hm⟩ := List.getElem?_of_mem ho
          exact hs ⟨m, o, hm, hds⟩
      have e2 : a'.defers = (putV a init 0 fun j => Classical.choose (hv j)).defers := by rw [putV_defers]; exact h.defers
      have e : a' = putV a init 0 fun j => Classical.choose (hv j) := by
        cases a'
        generalize putV a init 0 (fun j => Classical.choose (hv j)) = b at e1 e2
        cases b
        simp only at e1 e2
        rw [e1, e2]
      have hC := hcont (fun j => Classical.choose (hv j)) w' h.inv fun j o hj => (Classical.choose_spec (hv j) o hj).2
      rw [← e] at hC
      unfold wpOp
      simp only [hatL]
      have hw : Region.wanted last (yielded ops a'.tmps) = true := by simp [Region.wanted, hg]
      rw [if_pos hw]
      refine .inl (Oper.wp_mono (fun a'' w'' hq => ?_) hC)
      refine wpAny_done ?_ hq fuel
      rw [List.eq_nil_iff_forall_not_mem]
      intro j hj
      obtain ⟨h0, o, ho, _⟩ := mem_ready.1 hj
      have hjlt := (Array.getElem?_eq_some_iff.1 ho).1
      by_cases hji : init.length = j
      · subst hji
        simp [hlt2] at h0
      · rw [getD_set_ne true hji, getD_any (by rw [h.lsize]; exact hjlt), hall j (by omega)] at h0
        cases h0
    · have hoi := hback i o ho hil
      have next : ∀ v w'', J w'' → T i v w'' → (∀ j u, T j u w' → T j u w'') → wpAny P .any ops Q fuel (listed.setIfInBounds i true) (a'.put o.dst v) w'' := fun v w'' hJ hT hmono => by
        refine ih _ _ _ (by have := left_set hlt hlt2 huni; omega) (by rw [getD_set_ne false hil]; exact hun) (fun j o' hj hl e he hb => ?_) ⟨hJ, by rw [put_defers]; exact h.defers, by rw [put_size]; exact h.size, by simp [h.lsize], fun s hs => ?_, fun j o' hj hl => ?_⟩
        · by_cases hij : i = j
          · subst hij
            rw [ho] at hj
            cases hj
            exact getD_set_true (hd e he hb)
          · rw [getD_set_ne false hij] at hl
            exact getD_set_true (hcl j o' hj hl e he hb)
        · rw [put_at, if_neg (fun hh => hs i o ho (by simp [hlt2]) hh.1)]
          refine h.out s fun j o' hj hl => hs j o' hj ?_
          exact getD_set_true hl
        · by_cases hij : i = j
          · subst hij
            rw [ho] at hj
            cases hj
            refine ⟨v, fun s hds => ?_, hT⟩
            rw [put_at, if_pos ⟨hds, by rw [h.size]; exact hS.lt i o s ho hds⟩]
          · rw [getD_set_ne false hij] at hl
            obtain ⟨u, h1, h2⟩ := h.vals j o' hj hl
            refine ⟨u, fun s hds => ?_, hmono j u h2⟩
            rw [put_at, if_neg (fun hh => hij (hS.once j i o' o s hj ho hds hh.1))]
            exact h1 s hds
      have hO := hob i o hoi a' w' (h.sees hd)
      unfold wpOp
      simp only [ho]
      split
      · rename_i hw
        rw [if_pos hw] at hO
        refine .inl (Oper.wp_mono ?_ hO)
        rintro a'' w'' ⟨v, rfl, h1, h2, h3⟩
        exact next v w'' h1 h2 h3
      · rename_i hw
        rw [if_neg hw] at hO
        exact next undef w' h.inv hO fun _ _ hu => hu
def lastsB (ops : Array Oper) (n : Nat) : Bool := (List.range n).all fun j => reachesB ops j ops.size n
theorem wp_region_steadyL {id : Nat} {a : Act} {w : World} (hm : P.follows .mixedOrders = true) {init : List Oper} {last : Oper} (hops : ops.toList = init ++ [last]) (T : Nat → Value → World → Prop) (J : World → Prop) (hok : steadyB ops a.tmps.size = true) (hl : lastsB ops init.length = true) (hg : last.guard = none) (hJ : J w.drew) (hob : ObL P ops Q a T J 0 init)
    (hcont : ∀ (vs : Nat → Value) w', J w' → (∀ i o, init[i]? = some o → T i (vs i) w') → last.wp P (putV a init 0 vs) w' (fun a'' w'' => Q .normal a'' w'') Q) : (Code.region id ops true).wp P Q a w := by
  refine wp_region_any hm ?_
  refine wpAny_steadyL hops (steadyB_spec hok) (fun j hj => List.all_eq_true.1 hl j (List.mem_range.2 hj)) (fun i o ho => ?_) hg hcont _ _ _ _ ?_ ?_ ?_ ⟨hJ, rfl, rfl, by simp, fun s _ => rfl, fun j o hj hl => ?_⟩
  · have := obL_get hob ho
    rwa [Nat.zero_add] at this
  · unfold left
    refine Nat.le_trans (List.countP_le_length) (by simp)
  · by_cases hlt : init.length < ops.size <;> simp [Array.getD_eq_getD_getElem?, hlt]
  · intro j o hj hl
    have hlt := (Array.getElem?_eq_some_iff.1 hj).1
    simp [hlt] at hl
  · have hlt := (Array.getElem?_eq_some_iff.1 hj).1
    simp [hlt] at hl
end
end Go.Proofs.YtjopodnlffaogaaGreatDoor.Tp
end
section
namespace Go.Proofs.YtjopodnlffaogaaGreatDoor.Tp
open Go.RowKit Go.Proofs.YtjopodnlffaogaaGreatDoorW.PrintWords Go.Proofs.YtjopodnlffaogaaGreatDoorW.PrintLast Go.Proofs.YtjopodnlffaogaaGreatDoorW.PrintMore
set_option linter.unusedVariables false
set_option linter.unusedSimpArgs false
inductive Blks (B : Nat) (w : World) : List Nat → List Obj → Prop
  | nil : Blks B w [] []
  | cons {g : Nat} {o : Obj} {gs : List Nat} {os : List Obj} (h : w.heap[g]? = some o) (hlt : B < g) (ht : Blks B w gs os) : Blks B w (g :: gs) (o :: os)
theorem Blks.mono {B : Nat} {w w' : World} (h : ∀ (g : Nat) (o : Obj), w.heap[g]? = some o → w'.heap[g]? = some o) {gs : List Nat} {os : List Obj} (hb : Blks B w gs os) : Blks B w' gs os := by
  induction hb with
  | nil => exact .nil
  | cons h1 h2 _ ih => exact .cons (h _ _ h1) h2 ih
abbrev Des := (List Nat → Value) × List Obj
def DT (B : Nat) (ds : List Des) (j : Nat) (v : Value) (w : World) : Prop := match ds[j]? with
  | some d => ∃ gs, v = d.1 gs ∧ Blks B w gs d.2
  | none => True
theorem DT.mono {B : Nat} {ds : List Des} {w w' : World} (h : ∀ (g : Nat) (o : Obj), w.heap[g]? = some o → w'.heap[g]? = some o) {j : Nat} {v : Value} (hd : DT B ds j v w) : DT B ds j v w' := by
  unfold DT at *
  split
  · rename_i d hq
    rw [hq] at hd
    obtain ⟨gs, h1, h2⟩ := hd
    exact ⟨gs, h1, h2.mono h⟩
  · trivial
structure DJ (w : World) (o : Obj) (w' : World) : Prop where
  below : Below w.heap.size w w'
  at_ : w'.heap[w.heap.size]? = some o
theorem DJ.alloc {w w' : World} {o : Obj} (h : DJ w o w') (p : Obj) : DJ w o (w'.alloc p) := ⟨below_alloc h.below p, blk_alloc h.at_ p⟩
section
variable {P : Program} {ops : Array Oper} {Q : Exit → Act → World → Prop} {a : Act} {w : World} {z : Obj} {ds : List Des} {i : Nat} {o : Oper} {a' : Act} {w' : World}
theorem Sees.val {J : World → Prop} (hs : Sees ops a (DT w.heap.size ds) J o a' w') (j s : Nat) (hw : awaits o j = true) (hd : (ops[j]?).bind (·.dst) = some s) {v : Value} (hv : ds[j]? = some (fun _ => v, [])) : a'.tmps[s]? = some v := by
  obtain ⟨u, h1, h2⟩ := hs.dep j s hw hd
  unfold DT at h2
  rw [hv] at h2
  obtain ⟨gs, rfl, _⟩ := h2
  exact h1
theorem Sees.own {T : Nat → Value → World → Prop} {J : World → Prop} (hs : Sees ops a T J o a' w') (s : Nat) (hn : (ops.all fun o' => o'.dst != some s) = true) {v : Value} (hv : a.tmps[s]? = some v) : a'.tmps[s]? = some v := (hs.out s hn).trans hv
theorem Sees.des (hs : Sees ops a (DT w.heap.size ds) (DJ w z) o a' w') (j s : Nat) (hw : awaits o j = true) (hd : (ops[j]?).bind (·.dst) = some s) {d : Des} (hv : ds[j]? = some d) : ∃ gs, a'.tmps[s]? = some (d.1 gs) ∧ Blks w.heap.size w' gs d.2 := by
  obtain ⟨u, h1, h2⟩ := hs.dep j s hw hd
  unfold DT at h2
  rw [hv] at h2
  obtain ⟨gs, rfl, h3⟩ := h2
  exact ⟨gs, h1, h3⟩
theorem ob_val {v : Value} (hg : o.guard = none) (hT : ds[i]? = some (fun _ => v, [])) (h : ∀ a' w', Sees ops a (DT w.heap.size ds) (DJ w z) o a' w' → (execOp a'.eval o).run P w' = .ok (.value v) w') : Ob P ops Q a (DT w.heap.size ds) (DJ w z) i o :=
  ob_ok hg fun a' w' hs => ⟨v, w', h a' w' hs, hs.inv, by unfold DT; rw [hT]; exact ⟨[], rfl, .nil⟩, fun _ _ hu => hu⟩
theorem ob_mix {d : Des} (hg : o.guard = none) (hT : ds[i]? = some d) (h : ∀ a' w', Sees ops a (DT w.heap.size ds) (DJ w z) o a' w' → ∃ gs, (execOp a'.eval o).run P w' = .ok (.value (d.1 gs)) w' ∧ Blks w.heap.size w' gs d.2) : Ob P ops Q a (DT w.heap.size ds) (DJ w z) i o :=
  ob_ok hg fun a' w' hs => by
    obtain ⟨gs, h1, h2⟩ := h a' w' hs
    exact ⟨_, w', h1, hs.inv, by unfold DT; rw [hT]; exact ⟨gs, rfl, h2⟩, fun _ _ hu => hu⟩
theorem ob_make {f : List Nat → Value} {p : Obj} (hg : o.guard = none) (hT : ds[i]? = some (f, [p])) (h : ∀ a' w', Sees ops a (DT w.heap.size ds) (DJ w z) o a' w' → (execOp a'.eval o).run P w' = .ok (.value (f [w'.heap.size])) (w'.alloc p)) : Ob P ops Q a (DT w.heap.size ds) (DJ w z) i o :=
  ob_ok hg fun a' w' hs => ⟨_, _, h a' w' hs, hs.inv.alloc p, by
    unfold DT
    rw [hT]
    exact ⟨[w'.heap.size], rfl, .cons (blk_new w' p) (blk_lt hs.inv.at_) .nil⟩, fun j u hu => DT.mono (fun g q hq => blk_alloc hq p) hu⟩
theorem obL_cons {T : Nat → Value → World → Prop} {J : World → Prop} {k : Nat} {l : List Oper} (h : Ob P ops Q a T J k o) (ht : ObL P ops Q a T J (k + 1) l) : ObL P ops Q a T J k (o :: l) := ⟨h, ht⟩
theorem obL_gen {T : Nat → Value → World → Prop} {J : World → Prop} {k : Nat} {l : List Oper} (h : ∀ Q, ObL P ops Q a T J k l) : ObL P ops Q a T J k l := h Q
theorem obL_nil {T : Nat → Value → World → Prop} {J : World → Prop} {k : Nat} : ObL P ops Q a T J k [] := trivial
theorem Blks.one {B : Nat} {w : World} {gs : List Nat} {o : Obj} (h : Blks B w gs [o]) : ∃ g, gs = [g] ∧ w.heap[g]? = some o ∧ B < g := by
  cases h with
  | cons h1 h2 ht =>
    cases ht
    exact ⟨_, rfl, h1, h2⟩
theorem Blks.three {B : Nat} {w : World} {gs : List Nat} {o p q : Obj} (h : Blks B w gs [o, p, q]) : ∃ g1 g2 g3, gs = [g1, g2, g3] ∧ (w.heap[g1]? = some o ∧ B < g1) ∧ (w.heap[g2]? = some p ∧ B < g2) ∧ w.heap[g3]? = some q ∧ B < g3 := by
  cases h with
  | cons h1 h2 ht =>
    cases ht with
    | cons h3 h4 ht =>
      cases ht with
      | cons h5 h6 ht =>
        cases ht
        exact ⟨_, _, _, rfl, ⟨h1, h2⟩, ⟨h3, h4⟩, h5, h6⟩
theorem Blks.mk3 {B : Nat} {w : World} {g1 g2 g3 : Nat} {o p q : Obj} (h1 : w.heap[g1]? = some o) (l1 : B < g1) (h2 : w.heap[g2]? = some p) (l2 : B < g2) (h3 : w.heap[g3]? = some q) (l3 : B < g3) : Blks B w [g1, g2, g3] [o, p, q] := .cons h1 l1 (.cons h2 l2 (.cons h3 l3 .nil))
def Vals (B k : Nat) (ds : List Des) (vs : Nat → Value) (w' : World) : Prop := ∀ i d, i < k → ds[i]? = some d → ∃ gs, vs i = d.1 gs ∧ Blks B w' gs d.2
theorem Vals.val {B k : Nat} {ds : List Des} {vs : Nat → Value} {w' : World} (h : Vals B k ds vs w') (i : Nat) (v : Value) (hi : i < k) (hd : ds[i]? = some (fun _ => v, [])) : vs i = v := by
  obtain ⟨_, h1, _⟩ := h i _ hi hd
  exact h1
theorem Vals.one {B k : Nat} {ds : List Des} {vs : Nat → Value} {w' : World} (h : Vals B k ds vs w') (i : Nat) (f : List Nat → Value) (o : Obj) (hi : i < k) (hd : ds[i]? = some (f, [o])) : ∃ g, vs i = f [g] ∧ w'.heap[g]? = some o ∧ B < g := by
  obtain ⟨gs, h1, h2⟩ := h i _ hi hd
  obtain ⟨g, rfl, h3, h4⟩ := h2.one
  exact ⟨g, h1, h3, h4⟩
theorem Vals.three {B k : Nat} {ds : List Des} {vs : Nat → Value} {w' : World} (h : Vals B k ds vs w') (i : Nat) (f : List Nat → Value) (o p q : Obj) (hi : i < k) (hd : ds[i]? = some (f, [o, p, q])) : ∃ g1 g2 g3, vs i = f [g1, g2, g3] ∧ (w'.heap[g1]? = some o ∧ B < g1) ∧ (w'.heap[g2]? = some p ∧ B < g2) ∧ w'.heap[g3]? = some q ∧ B < g3 := by
  obtain ⟨gs, h1, h2⟩ := h i _ hi hd
  obtain ⟨g1, g2, g3, rfl, h3⟩ := h2.three
  exact ⟨g1, g2, g3, h1, h3⟩
theorem region_made {id k : Nat} {last : Oper} (hm : P.follows .mixedOrders = true) (hk : ops.toList.drop k = [last]) (z : Obj) (ds : List Des) {wr : World} (hok : steadyB ops a.tmps.size = true) (hl : lastsB ops k = true) (hlen : ops.size = k + 1) (hg : last.guard = none) (hJ : DJ w z wr.drew) (hob : ObL P ops Q a (DT w.heap.size ds) (DJ w z) 0 (ops.toList.take k))
    (hcont : ∀ (vs : Nat → Value) w', DJ w z w' → Vals w.heap.size k ds vs w' → last.wp P (putV a (ops.toList.take k) 0 vs) w' (fun a'' w'' => Q .normal a'' w'') Q) : (Code.region id ops true).wp P Q a wr := by
  have hlk : (ops.toList.take k).length = k := by simp [hlen]
  refine wp_region_steadyL hm (init := ops.toList.take k) (last := last) (by rw [← hk, List.take_append_drop]) (DT w.heap.size ds) (DJ w z) hok (by rw [hlk]; exact hl) hg hJ hob fun vs w' h1 h2 => hcont vs w' h1 fun i d hi hd => ?_
  have hil : i < (ops.toList.take k).length := by rw [hlk]; exact hi
  have := h2 i _ (List.getElem?_eq_getElem hil)
  unfold DT at this
  rw [hd] at this
  exact this
end
end Go.Proofs.YtjopodnlffaogaaGreatDoor.Tp
end
section
namespace Go.Proofs.YtjopodnlffaogaaGreatDoor.Tp
open Go.RowKit Go.Proofs.YtjopodnlffaogaaGreatDoorW.PrintWords Go.Proofs.YtjopodnlffaogaaGreatDoorW.PrintLast Go.Proofs.YtjopodnlffaogaaGreatDoorW.PrintMore
attribute [local go_sem] max2_int min2_int max_two min_two max_three min_three max_four min_four
set_option linter.unusedVariables false
set_option linter.unusedSimpArgs false
def psum (l : List Int) (i : Nat) : Int := (l.take i).sum
theorem psum_zero (l : List Int) : psum l 0 = 0 := rfl
theorem psum_succ (l : List Int) (i : Nat) (h : i < l.length) : psum l (i + 1) = psum l i + l.getD i 0 := by
  unfold psum
  rw [List.take_succ_eq_append_getElem h, List.sum_append]
  simp [List.getD_eq_getElem?_getD, h]
theorem psum_le (l : List Int) (hl : ∀ s ∈ l, 0 ≤ s ∧ s ≤ 4096) : ∀ i : Nat, i ≤ l.length → 0 ≤ psum l i ∧ psum l i ≤ 4096 * (i : Int)
  | 0, _ => by rw [psum_zero]; omega
  | i + 1, h => by
    have h1 := psum_le l hl i (by omega)
    have h2 := hl (l.getD i 0) (by rw [List.getD_eq_getElem?_getD, List.getElem?_eq_getElem (by omega)]; exact List.getElem_mem _)
    rw [psum_succ l i (by omega)]; omega
def begs (l : List Int) (i : Nat) : List Int := (List.range i).map (psum l)
theorem begs_succ (l : List Int) (i : Nat) : begs l (i + 1) = begs l i ++ [psum l i] := by simp [begs, List.range_succ]
theorem begs_length (l : List Int) (i : Nat) : (begs l i).length = i := by simp [begs]
structure MemAt (W : World) (B bm bc gc : Nat) (vs vb : Value) (szs xs : List Int) : Prop where
  blk : W.heap[bm]? = some (.cells #[.pointer (some ⟨bc, 0, none⟩), vs, vb] 261 (0, 0))
  sizes : Kd.R (Kd.int .i64) 3 W B (fun _ => True) vs szs
  begins : Kd.R (Kd.int .i64) 3 W B (fun _ => True) vb (begs szs szs.length)
  cblk : W.heap[bc]? = some (.cells (cellsC gc xs.length) 310 (0, 0))
  crow : W.heap[gc]? = some (.cells (row32 xs) 314 (0, 0))
def over (xs : List Int) (i : Nat) : List Int := xs.take i ++ List.replicate (xs.length - i) 0
theorem over_length (xs : List Int) (i : Nat) (h : i ≤ xs.length) : (over xs i).length = xs.length := by simp [over]; omega
theorem over_zero (xs : List Int) : row32 (over xs 0) = zeros xs.length (.int .u32 0) := by simp [over, row32, zeros]
theorem over_all (xs : List Int) : over xs xs.length = xs := by simp [over]
theorem over_succ (xs : List Int) (i : Nat) (h : i < xs.length) : (over xs i).set i (xs.getD i 0) = over xs (i + 1) := by
  unfold over
  obtain ⟨d, hd⟩ : ∃ d, xs.length - i = d + 1 := ⟨xs.length - i - 1, by omega⟩
  have hd2 : xs.length - (i + 1) = d := by omega
  rw [hd, hd2, List.replicate_succ, List.take_succ_eq_append_getElem h, List.append_assoc]
  rw [List.set_append_right _ _ (by simp; omega)]
  have : i - (xs.take i).length = 0 := by simp; omega
  rw [this]
  simp [List.getD_eq_getElem?_getD, h]
set_option maxHeartbeats 4000000 in
set_option maxRecDepth 100000 in
theorem memNew_calls (A1 A2 : Option Addr) (c1 c2 : Nat) (szs xs : List Int) (w : World) (hs : Kd.C (Kd.int .i64) w A1 szs.length szs) (hsc : szs.length ≤ c1) (hsn : A1 = none → szs = []) (hx : Kd.C (Kd.int .u32) w A2 xs.length xs) (h8 : szs.length ≤ 8) (hr : ∀ s ∈ szs, 0 ≤ s ∧ s ≤ 4096) (hsum : psum szs szs.length = xs.length) (hn : xs.length ≤ 8192) :
    Calls Tryz.prog 114 #[.slice A1 szs.length c1, .slice A2 xs.length c2] w fun e w' =>
    ∃ bm bc gc vs vb, e = .returned (.tuple #[.pointer (some ⟨bm, 0, none⟩), .int .i64 0]) ∧ Below w.heap.size w w' ∧ MemAt w' w.heap.size bm bc gc vs vb szs xs ∧ w.heap.size ≤ bm ∧ w.heap.size ≤ bc ∧ w.heap.size ≤ gc := by
  have HS := Aside0.mk hs
  have HXC := Aside0.mk hx
  have HR := Aside0.mk hr
  have HSUM := Aside0.mk hsum
  have e0 : decide (8 < (szs.length : Int)) = false := decide_eq_false (by omega)
  have CL := Aside0.mk (cloneInts_calls A1 c1 szs w hs hsc hsn (by omega))
  clear hs hx hr hsum hsc hsn
  go_enter Tryz.func114, Tryz.ntmps114
  go_wp2_with (go_at_call 171; refine CL.out.mono ?_; rintro e w1 ⟨vs, rfl, hR, hb⟩; have SZ0 := Aside0.mk hR; have HB0 := Aside0.mk hb; obtain ⟨A3, cap3, hv3, _, _⟩ := Kd.R_reads hR; clear hR hb; subst hv3)
  clear e0 CL
  have HS1 := Aside0.mk (Kd.C_below HS.out HB0.out)
  have HX1 := Aside0.mk (Kd.C_below HXC.out HB0.out)
  obtain ⟨X, hX⟩ : ∃ X, X = w1.heap.size := ⟨_, rfl⟩
  have SZ1 := Aside0.mk (show Kd.R (Kd.int .i64) 3 w1 w.heap.size (fun k => k < X) (.slice A3 szs.length cap3) szs from Kd.R_mono (Kd.R_bound SZ0.out) (fun k hk => hX ▸ hk.2.2.1))
  have XX := Aside0.mk (show w.heap.size ≤ X from hX ▸ HB0.out.size)
  have NW := Aside0.mk (blk_new w1 (.cells #[.pointer none, .slice A3 szs.length cap3, .slice none 0 0] 261))
  have HX2 := Aside0.mk hX
  rw [← hX] at NW
  clear hX SZ0
  rw [← HX2.out]
  go_loopw [7, 23] (fun s i wr => ∃ (k : Nat) (v : Value), k ≤ szs.length ∧ i = .int .i64 k ∧ s = .int .i64 (psum szs k) ∧ Aside0 (wr.heap[X]? = some (.cells #[.pointer none, .slice A3 szs.length cap3, v] 261 (0, 0))) ∧ Aside0 (Kd.R (Kd.int .i64) 3 wr w.heap.size (fun k => k < X) (.slice A3 szs.length cap3) szs) ∧ Aside0 (Kd.R (Kd.int .i64) 3 wr w.heap.size (fun k => X ≤ k) v (begs szs k)) ∧ Aside0 (Below w1.heap.size w1 wr)) (fun _ i _ => szs.length - (intOf i).toNat)
  case atStart => exact ⟨0, .slice none 0 0, Nat.zero_le _, rfl, rfl, NW, ⟨Kd.R_alloc SZ1.out _⟩, ⟨Kd.R_nil _ _ _ _ _⟩, ⟨below_alloc (Below.refl _ _) _⟩⟩
  case round =>
    clear SZ1 NW
    obtain ⟨k, v, hk, rfl, rfl, B0, SZ, HG, HBW⟩ := hrel
    have HB := Aside0.mk (below_step HB0.out HBW.out)
    have XW := Aside0.mk (show X ≤ wr.heap.size from by rw [HX2.out]; exact HBW.out.size)
    by_cases hlt : k < szs.length
    · have HK := Aside0.mk (⟨hlt, h8⟩ : k < szs.length ∧ szs.length ≤ 8)
      have hT : decide ((k : Int) < (szs.length : Int)) = true := decide_eq_true (by omega)
      obtain ⟨ad, rfl, x0⟩ := Kd.at_int HS1.out (k : Int) (by omega) (by omega)
      replace x0 := (HBW.out.cell (World.block_lt_of_cell? w1 _ x0)).trans x0
      simp only [Int.toNat_natCast] at x0
      have hrd : rd szs (k : Int) = szs.getD k 0 := by simp [rd]
      rw [hrd] at x0
      obtain ⟨p0, p1⟩ := psum_le szs HR.out k (by omega)
      have PS := Aside0.mk (psum_succ szs k hlt)
      obtain ⟨r0, r1⟩ := HR.out (szs.getD k 0) (by rw [List.getD_eq_getElem?_getD, List.getElem?_eq_getElem hlt]; exact List.getElem_mem _)
      generalize szs.getD k 0 = sk at x0 PS r0 r1
      have t0 : decide (sk < 0) = false := decide_eq_false (by omega)
      have t1 : decide (4096 < sk) = false := decide_eq_false (by omega)
      have p2 : psum szs k ≤ 32768 := by omega
      clear hrd p1
      have c2 := (blk_cell B0.out 2).trans rfl
      go_wp2_with ((with_reducible refine gate_builtin (b := .append) (xs := #[.tmp 37, .tmp 39]) rfl ?_); at_builtin; refine Kd.R_append (Kd.int .i64) (w0 := w) (w.heap.size) rfl (.tmp 37) (.tmp 39) 32 3 (.int .i64 0) 8 rfl Tryz.underlying32 info3 rfl (by decide) (by omega) v (begs szs k) (psum szs k) [.int .i64 (psum szs k)] (fun k => X ≤ k) (fun _ => False) rfl (by first | (go_simp; done) | (go_simp; rfl)) ?aP (fun _ hk => hk.elim) (fun q hq => Nat.le_trans XW.out hq) ?aO ?aB ?aS ?aL ?_; (case aP => exact rfl); (case aO => exact (by (with_reducible repeat (first | apply Kd.R_alloc | apply Kd.R_drewN)); exact HG.out)); (case aB => exact (by repeat (first | exact HB.out | apply below_alloc | apply pw_below_drewN))); (case aS => exact (by repeat (first | exact (HB.out).size | apply Nat.le_trans (HB.out).size; simp))); (case aL => rw [begs_length]; have := HK.out; omega); intro v1 w8 ho hb hg hat; have b0 := Aside0.mk (blk_app HG.out hg B0.out (by decide)); have sz := Aside0.mk (Kd.R_step SZ.out (fun q hq hlt => hg.block q hlt (fun e => by have h1 := HG.out.1 q e.symm; have h2 : q < X := hq; omega))); have hw := Aside0.mk (pw_below_grown HBW.out _ HBW.out.size hg (fun q hq => by have h2 : X ≤ q := HG.out.1 q hq; have := HX2.out; omega)); obtain ⟨A1, cap1, hv1, _, _⟩ := Kd.R_reads ho; generalize List.length _ = n1 at hv1; subst hv1; have hr := Aside0.mk ho; have hbb := Aside0.mk hb; clear ho hb hg hat B0 SZ HG HB HBW; have c2 := (blk_cell b0.out 2).trans rfl; have f2 := blk_frozen b0.out 2)
      go_wp2
      go_roundw
      case rel => exact ⟨k + 1, _, by omega, by go_num, by rw [PS.out], ⟨(blk_set b0.out 2 _).trans rfl⟩, ⟨Kd.R_set sz.out b0.out (by decide) 2 _⟩, ⟨by rw [begs_succ]; exact Kd.R_set hr.out b0.out (by decide) 2 _⟩, ⟨below_set (j := 2) hw.out (by have := HX2.out; omega)⟩⟩
      case measure => simp [intOf]; omega
    · have e : k = szs.length := by omega
      subst e
      have hT : decide ((szs.length : Int) < (szs.length : Int)) = false := decide_eq_false (by omega)
      rw [HSUM.out]
      have q0 : (xs.length != xs.length) = false := by simp
      have q1 : ((xs.length : Int) != (xs.length : Int)) = false := by simp
      have NC := Aside0.mk (fun W => cellNew_calls xs.length W hn)
      obtain ⟨wo, rfl⟩ : ∃ wo : World, wo = wr := ⟨_, rfl⟩
      go_wp2_with (go_at_call 172; refine (NC.out _).mono ?_; rintro e w3 ⟨rfl, rfl⟩)
      clear hT q0 q1
      have C1 := Aside0.mk (show ((wo.alloc (.cells (zeros xs.length (.int .u32 0)) 314)).alloc (.cells (cellsC wo.heap.size xs.length) 310)).heap[wo.heap.size + 1]? = some (.cells (cellsC wo.heap.size xs.length) 310 (0, 0)) from by
        have := blk_new (wo.alloc (.cells (zeros xs.length (.int .u32 0)) 314)) (.cells (cellsC wo.heap.size xs.length) 310)
        simpa using this)
      have C2 := Aside0.mk (show ((wo.alloc (.cells (zeros xs.length (.int .u32 0)) 314)).alloc (.cells (cellsC wo.heap.size xs.length) 310)).heap[wo.heap.size]? = some (.cells (row32 (over xs 0)) 314 (0, 0)) from by
        rw [over_zero]; exact blk_alloc (blk_new wo _) _)
      have n0 := Aside0.mk (blk_alloc (blk_alloc B0.out (.cells (zeros xs.length (.int .u32 0)) 314)) (.cells (cellsC wo.heap.size xs.length) 310))
      have n1 := Aside0.mk (Kd.R_alloc (Kd.R_alloc SZ.out (.cells (zeros xs.length (.int .u32 0)) 314)) (.cells (cellsC wo.heap.size xs.length) 310))
      have n2 := Aside0.mk (Kd.R_alloc (Kd.R_alloc HG.out (.cells (zeros xs.length (.int .u32 0)) 314)) (.cells (cellsC wo.heap.size xs.length) 310))
      have n3 := Aside0.mk (below_alloc (below_alloc HBW.out (.cells (zeros xs.length (.int .u32 0)) 314)) (.cells (cellsC wo.heap.size xs.length) 310))
      have GW := Aside0.mk HB.out.size
      have GX := Aside0.mk HBW.out.size
      clear B0 SZ HG HBW HB
      generalize (wo.alloc (.cells (zeros xs.length (.int .u32 0)) 314)).alloc (.cells (cellsC wo.heap.size xs.length) 310) = wi at C1 C2 n0 n1 n2 n3 ⊢
      clear XW
      generalize wo.heap.size = gc at C1 C2 GW GX ⊢
      go_loopw [62] (fun i wr => ∃ (j : Nat), j ≤ xs.length ∧ i = .int .i64 j ∧ Aside0 (wr.heap[gc + 1]? = some (.cells (cellsC gc xs.length) 310 (0, 0))) ∧ Aside0 (wr.heap[gc]? = some (.cells (row32 (over xs j)) 314 (0, 0))) ∧ Aside0 (wr.heap[X]? = some (.cells #[.pointer none, .slice A3 szs.length cap3, v] 261 (0, 0))) ∧ Aside0 (Kd.R (Kd.int .i64) 3 wr w.heap.size (fun k => k < X) (.slice A3 szs.length cap3) szs) ∧ Aside0 (Kd.R (Kd.int .i64) 3 wr w.heap.size (fun k => X ≤ k) v (begs szs szs.length)) ∧ Aside0 (Below w1.heap.size w1 wr)) (fun i _ => xs.length - (intOf i).toNat)
      case atStart => exact ⟨0, Nat.zero_le _, rfl, C1, C2, n0, n1, n2, n3⟩
      case round =>
        clear C1 C2 n0 n1 n2 n3
        obtain ⟨j, hj, rfl, C1, C2, B0, SZ, HG, HBW⟩ := hrel
        by_cases hjl : j < xs.length
        · have hT : decide ((j : Int) < (xs.length : Int)) = true := decide_eq_true (by omega)
          have HJ := Aside0.mk hjl
          obtain ⟨ad, rfl, x0⟩ := Kd.at_int HX1.out (j : Int) (by omega) (by omega)
          replace x0 := (HBW.out.cell (World.block_lt_of_cell? w1 _ x0)).trans x0
          simp only [Int.toNat_natCast] at x0
          have hrd : rd xs (j : Int) = xs.getD j 0 := by simp [rd]
          rw [hrd] at x0
          have CS := Aside0.mk (cStore (gc + 1) gc xs.length j (over xs j) (xs.getD j 0) wr C1.out C2.out (over_length xs j hj) hjl hn)
          have OS := Aside0.mk (over_succ xs j hjl)
          generalize xs.getD j 0 = xv at x0 CS OS
          clear hrd
          go_wp2_with (go_at_call 173; refine CS.out.mono ?_; rintro e w4 ⟨rfl, hm, hrow⟩; have hS : ∀ q, q = gc → ∃ c t, wr.heap[q]? = some (.cells c t (0, 0)) ∧ t = 314 := (fun q hq => ⟨_, 314, hq ▸ C2.out, rfl⟩); have m0 := Aside0.mk (hm.blkT C1.out (fun q hq => ⟨_, 314, hq ▸ C2.out, by decide⟩)); have m1 := Aside0.mk (hrow.trans (by rw [OS.out])); have m2 := Aside0.mk (hm.blkT B0.out (fun q hq => ⟨_, 314, hq ▸ C2.out, by decide⟩)); have m3 := Aside0.mk (R_mod SZ.out hm (fun q hq => ⟨_, 314, hq ▸ C2.out, by decide⟩)); have m4 := Aside0.mk (R_mod HG.out hm (fun q hq => ⟨_, 314, hq ▸ C2.out, by decide⟩)); have m5 := Aside0.mk (show Below w1.heap.size w1 w4 from ⟨hm.os.trans HBW.out.os, hm.tape.trans HBW.out.tape, hm.output.trans HBW.out.output, Nat.le_trans HBW.out.size hm.size, fun i hi => (hm.block i (Nat.lt_of_lt_of_le hi HBW.out.size) (by have := GX.out; omega)).trans (HBW.out.block i hi)⟩); clear hm hrow hS C1 C2 B0 SZ HG HBW CS OS)
          go_roundw
          case rel => exact ⟨j + 1, by omega, by go_num, m0, m1, m2, m3, m4, m5⟩
          case measure => simp [intOf]; omega
        · have ej : j = xs.length := by omega
          subst ej
          have hT : decide ((xs.length : Int) < (xs.length : Int)) = false := decide_eq_false (by omega)
          have c0 := (blk_cell B0.out 0).trans rfl
          have f0 := blk_frozen B0.out 0
          go_wp2
          go_ret2
          refine ⟨X, gc + 1, gc, .slice A3 szs.length cap3, v, rfl, below_set (j := 0) (below_step HB0.out HBW.out) (by have := XX.out; omega), ⟨(blk_set B0.out 0 _).trans rfl, Kd.R_mono (Kd.R_set SZ.out B0.out (by decide) 0 _) (fun _ _ => trivial), Kd.R_mono (Kd.R_set HG.out B0.out (by decide) 0 _) (fun _ _ => trivial), blk_far (p := ⟨X, 0, none⟩) C1.out (blk_ne C1.out B0.out (by decide)) _, ?_⟩, XX.out, by have := GW.out; omega, GW.out⟩
          have h := C2.out
          rw [over_all] at h
          exact blk_far (p := ⟨X, 0, none⟩) h (blk_ne h B0.out (by decide)) _
end Go.Proofs.YtjopodnlffaogaaGreatDoor.Tp
end
section
namespace Go.Proofs.YtjopodnlffaogaaGreatDoor.Tp
open Go.RowKit Go.Proofs.YtjopodnlffaogaaGreatDoorW.PrintWords Go.Proofs.YtjopodnlffaogaaGreatDoorW.PrintLast Go.Proofs.YtjopodnlffaogaaGreatDoorW.PrintMore
attribute [local go_sem] max2_int min2_int max_two min_two max_three min_three max_four min_four
set_option linter.unusedVariables false
set_option linter.unusedSimpArgs false
theorem handle_small (x : Nat) (h : x < 4096) : handle_New.f (x : Int) 0 = some ((x : Int), 0) := by
  unfold handle_New.f
  rw [if_neg (by omega), if_neg (by omega), if_neg (by omega), if_neg (by omega)]
  have h0 : wrap64 (0 * 4096) = 0 := by unfold wrap64; omega
  have h1 : Go.bits .or .i64 0 (x : Int) = (x : Int) := by
    show IntKind.i64.wrap (((BitVec.ofInt 64 0 ||| BitVec.ofInt 64 (x : Int)).toNat : Nat) : Int) = _
    rw [BitVec.toNat_or, BitVec.toNat_ofInt, BitVec.toNat_ofInt]
    have e1 : (((0 : Int)) % (2 ^ 64 : Nat)).toNat = 0 := by decide
    have e2 : (((x : Nat) : Int) % (2 ^ 64 : Nat)).toNat = x := by omega
    rw [e1, e2, Nat.zero_or, IntWalk.i64_in _ (by omega)]
  rw [h0, h1]
  have : (x : Int) % 4294967296 = (x : Int) := by omega
  rw [this]
structure Rg where
  b : Nat
  g : Nat
  first : Nat
  n : Nat
  xs : List Int
def kptr : Kd Nat := Kd.scalar (fun b : Nat => Value.pointer (some ⟨b, 0, none⟩)) (fun _ => rfl)
theorem info227 : (Tryz.prog.info? 227).map (fun i => (i.zero, i.size, i.bytes)) = some (some (.pointer none), 1, 8) := by kernel_rfl
structure RingAt (W : World) (m : Nat) (r : Rg) : Prop where
  blk : W.heap[r.b]? = some (.cells (ringC r.g m r.first r.n) 284 (0, 0))
  row : W.heap[r.g]? = some (.cells (row32 r.xs) 22 (0, 0))
  len : r.xs.length = m
structure RingsAt (W : World) (m : Nat) (rs : List Rg) : Prop where
  nb : (rs.map Rg.b).Nodup
  ng : (rs.map Rg.g).Nodup
  at_ : ∀ r ∈ rs, RingAt W m r
theorem RingAt.step {W W' : World} {m : Nat} {r : Rg} (h : RingAt W m r) (hk : ∀ k o, W.heap[k]? = some o → (k = r.b ∨ k = r.g) → W'.heap[k]? = some o) : RingAt W' m r := ⟨hk _ _ h.blk (.inl rfl), hk _ _ h.row (.inr rfl), h.len⟩
theorem RingsAt.step {W W' : World} {m : Nat} {rs : List Rg} (h : RingsAt W m rs) (hk : ∀ (k : Nat) (c : Array Value) (t : TypeId), W.heap[k]? = some (Obj.cells c t (0, 0)) → (t = 284 ∨ t = 22) → W'.heap[k]? = some (Obj.cells c t (0, 0))) : RingsAt W' m rs :=
  ⟨h.nb, h.ng, fun r hr => ⟨hk _ _ _ (h.at_ r hr).blk (.inl rfl), hk _ _ _ (h.at_ r hr).row (.inr rfl), (h.at_ r hr).len⟩⟩
theorem RingsAt.snoc {W : World} {m X : Nat} {rs : List Rg} {r : Rg} (h : RingsAt W m rs) (hr : RingAt W m r) (hX : ∀ q ∈ rs, q.b < X ∧ q.g < X) (h0 : X ≤ r.b) (h1 : X ≤ r.g) : RingsAt W m (rs ++ [r]) := by
  refine ⟨?_, ?_, fun q hq => ?_⟩
  · rw [List.map_append, List.nodup_append]
    refine ⟨h.nb, by simp, fun a ha c hc => ?_⟩
    obtain ⟨q, hq, rfl⟩ := List.mem_map.1 ha
    have := (hX q hq).1
    simp at hc; omega
  · rw [List.map_append, List.nodup_append]
    refine ⟨h.ng, by simp, fun a ha c hc => ?_⟩
    obtain ⟨q, hq, rfl⟩ := List.mem_map.1 ha
    have := (hX q hq).2
    simp at hc; omega
  · rcases List.mem_append.1 hq with hq | hq
    · exact h.at_ q hq
    · rw [List.mem_singleton.1 hq]; exact hr
def fillTo (q m i : Nat) : List Int := (List.range i).map (fun j => ((q + j + 1 : Nat) : Int)) ++ List.replicate (m - i) 0
theorem fillTo_length (q m i : Nat) (h : i ≤ m) : (fillTo q m i).length = m := by simp [fillTo]; omega
theorem fillTo_zero (q m : Nat) : row32 (fillTo q m 0) = zeros m (.int .u32 0) := by simp [fillTo, row32, zeros]
theorem fillTo_succ (q m i : Nat) (h : i < m) : (fillTo q m i).set i ((q + i + 1 : Nat) : Int) = fillTo q m (i + 1) := by
  unfold fillTo
  obtain ⟨d, hd⟩ : ∃ d, m - i = d + 1 := ⟨m - i - 1, by omega⟩
  have hd2 : m - (i + 1) = d := by omega
  rw [hd, hd2, List.replicate_succ, List.range_succ, List.map_append, List.append_assoc]
  rw [List.set_append_right _ _ (by simp)]
  simp
structure PoolAt (W : World) (B bp bm : Nat) (m : Nat) (v : Value) (rs : List Rg) : Prop where
  blk : W.heap[bp]? = some (.cells #[.int .i64 (m : Int), v, .map (some bm)] 231 (0, 0))
  row : Kd.R kptr 227 W B (fun _ => True) v (rs.map Rg.b)
  rings : RingsAt W m rs
set_option maxHeartbeats 4000000 in
set_option maxRecDepth 100000 in
theorem poolNew_calls (n m : Nat) (w : World) (h0 : 1 ≤ n) (h1 : n ≤ 64) (m1 : m ≤ 8) : Calls Tryz.prog 113 #[.int .i64 (n : Int), .int .i64 (m : Int)] w fun e w' =>
    ∃ bp bm v rs, e = .returned (.tuple #[.pointer (some ⟨bp, 0, none⟩), .int .i64 0]) ∧ Below w.heap.size w w' ∧ PoolAt w' w.heap.size bp bm m v rs ∧ w'.heap[bm]? = some (.map #[] 0) ∧ w.heap.size ≤ bp ∧ w.heap.size ≤ bm ∧ rs.length = n ∧ (∀ r ∈ rs, r.first = 0 ∧ r.n = m) := by
  have e0 : decide ((n : Int) < 1) = false := decide_eq_false (by omega)
  have e1 : decide (64 < (n : Int)) = false := decide_eq_false (by omega)
  have e2 : decide ((m : Int) < 0) = false := decide_eq_false (by omega)
  have e3 : decide (8 < (m : Int)) = false := decide_eq_false (by omega)
  have hmm := @run_makeMap Tryz.prog
  go_enter Tryz.func113, Tryz.ntmps113
  go_wp2
  clear e0 e1 e2 e3 hmm
  go_loopw [31] (fun i wr => ∃ (k : Nat) (v : Value) (rs : List Rg), k ≤ n ∧ i = .int .i64 k ∧ Aside0 (rs.length = k) ∧ Aside0 (wr.heap[w.heap.size + 1]? = some (.cells #[.int .i64 (m : Int), v, .map (some w.heap.size)] 231 (0, 0))) ∧ Aside0 (Kd.R kptr 227 wr w.heap.size (fun _ => True) v (rs.map Rg.b)) ∧ Aside0 (wr.heap[w.heap.size]? = some (.map #[] 0)) ∧ Aside0 (RingsAt wr m rs) ∧ Aside0 (∀ r ∈ rs, r.first = 0 ∧ r.n = m) ∧ Aside0 (Below w.heap.size w wr)) (fun i _ => n - (intOf i).toNat)
  case atStart => exact ⟨0, .slice none 0 0, [], Nat.zero_le _, rfl, ⟨rfl⟩, ⟨by have := blk_new (w.alloc (.map #[] 0)) (.cells #[.int .i64 (m : Int), .slice none 0 0, .map (some w.heap.size)] 231); simpa using this⟩, ⟨Kd.R_nil _ _ _ _ _⟩, ⟨blk_alloc (blk_new w _) _⟩, ⟨⟨List.nodup_nil, List.nodup_nil, fun r hr => by cases hr⟩⟩, ⟨fun r hr => by cases hr⟩, ⟨below_alloc (below_alloc (Below.refl _ _) _) _⟩⟩
  case round =>
    obtain ⟨k, v, rs, hk, rfl, HL, B0, HR, BM, RG, HF, HB⟩ := hrel
    obtain ⟨wo, rfl⟩ : ∃ wo : World, wo = wr := ⟨_, rfl⟩
    by_cases hlt : k < n
    · have HK := Aside0.mk (⟨hlt, h1⟩ : k < n ∧ n ≤ 64)
      have hT : decide ((k : Int) < (n : Int)) = true := decide_eq_true (by omega)
      have HM1 := Aside0.mk m1
      obtain ⟨X, hX⟩ : ∃ X, X = wo.heap.size := ⟨_, rfl⟩
      have XL := Aside0.mk (fun q (hq : q ∈ rs) => (⟨hX ▸ blk_lt (RG.out.at_ q hq).blk, hX ▸ blk_lt (RG.out.at_ q hq).row⟩ : q.b < X ∧ q.g < X))
      have XW := Aside0.mk (show w.heap.size + 1 < X from hX ▸ blk_lt B0.out)
      have HX := Aside0.mk hX
      clear hX
      go_wp2_with (go_at_call 168; refine (ringNew_calls m _ (by have := HM1.out; omega)).mono ?_; rintro e w3 ⟨rfl, rfl⟩)
      have RR := Aside0.mk (show RingAt ((wo.alloc (.cells (zeros m (.int .u32 0)) 22)).alloc (.cells (ringC wo.heap.size m 0 0) 284)) m ⟨X + 1, X, 0, 0, fillTo (k * m) m 0⟩ from by
        rw [HX.out]
        exact ⟨by have := blk_new (wo.alloc (.cells (zeros m (.int .u32 0)) 22)) (.cells (ringC wo.heap.size m 0 0) 284); simpa using this, by rw [fillTo_zero]; exact blk_alloc (blk_new wo _) _, fillTo_length _ _ _ (Nat.zero_le _)⟩)
      have MD := Aside0.mk (show Mod (fun q => X ≤ q) wo ((wo.alloc (.cells (zeros m (.int .u32 0)) 22)).alloc (.cells (ringC wo.heap.size m 0 0) 284)) from ((Mod.refl _ wo).alloc _).alloc _)
      rw [show wo.heap.size + 1 = X + 1 from by rw [HX.out]]
      generalize (wo.alloc (.cells (zeros m (.int .u32 0)) 22)).alloc (.cells (ringC wo.heap.size m 0 0) 284) = wi at RR MD ⊢
      have hmul : wrap64 ((k : Int) * (m : Int)) = ((k * m : Nat) : Int) := by
        have h8 : k * m ≤ 64 * 8 := Nat.mul_le_mul (by omega) m1
        have hc : (k : Int) * (m : Int) = ((k * m : Nat) : Int) := by simp
        rw [hc]; unfold wrap64; omega
      have hq : k * m ≤ 504 := by
        have h8 : k * m ≤ 63 * 8 := Nat.mul_le_mul (by omega) m1
        omega
      generalize k * m = q at hmul hq RR
      clear hT
      go_loopw [37] (fun i wr => ∃ (j : Nat), j ≤ m ∧ i = .int .i64 j ∧ Aside0 (RingAt wr m ⟨X + 1, X, 0, j, fillTo q m j⟩) ∧ Aside0 (Mod (fun q => X ≤ q) wo wr)) (fun i _ => m - (intOf i).toNat)
      case atStart => exact ⟨0, Nat.zero_le _, rfl, RR, MD⟩
      case round =>
        clear RR MD
        obtain ⟨j, hj, rfl, RR, MD⟩ := hrel
        by_cases hjl : j < m
        · have hT : decide ((j : Int) < (m : Int)) = true := decide_eq_true (by omega)
          have HJ := Aside0.mk (⟨hjl, m1⟩ : j < m ∧ m ≤ 8)
          have q0 : (0 : Int) ≤ (q : Int) := by omega
          have q1 : (q : Int) ≤ 504 := by omega
          have j0 : (j : Int) ≤ 8 := by omega
          have H1 := Aside0.mk (fun W => handle_New.calls (((q + j + 1 : Nat)) : Int) 0 _ _ W (handle_small (q + j + 1) (by omega)))
          have hsum : (q : Int) + (j : Int) + 1 = ((q + j + 1 : Nat) : Int) := by omega
          rw [← hsum] at H1
          have P1 := Aside0.mk (fun (W : World) (h : RingAt W m ⟨X + 1, X, 0, j, fillTo q m j⟩) => put_calls (X + 1) X m 0 j (fillTo q m j) (((q + j + 1 : Nat)) : Int) W h.blk h.row h.len hjl (by omega) (by omega))
          rw [← hsum] at P1
          clear hsum hq
          go_wp2_with (first | (go_at_call 169; refine (H1.out _).mono ?_; rintro e w3 ⟨rfl, hd⟩; have RR3 := Aside0.mk (RR.out.step (fun q o hq _ => (hd.below.block q (blk_lt hq)).trans hq)); have MD3 := Aside0.mk (MD.out.drawn hd); clear hd RR MD) | (go_at_call 170; refine (P1.out _ RR3.out).mono ?_; rintro e w4 ⟨rfl, hm, hb1, hb2⟩; have RR2 := Aside0.mk (show RingAt w4 m ⟨X + 1, X, 0, j + 1, fillTo q m (j + 1)⟩ from ⟨hb1, by rw [hb2]; rw [show (q : Int) + (j : Int) + 1 = ((q + j + 1 : Nat) : Int) by omega, Nat.zero_add, Nat.mod_eq_of_lt HJ.out.1, fillTo_succ q m j HJ.out.1], fillTo_length _ _ _ HJ.out.1⟩); have MD2 := Aside0.mk (MD3.out.trans hm (fun i hi hs => by rcases hs with rfl | rfl <;> simp)); clear hm hb1 hb2 RR3 MD3))
          go_roundw
          case rel => exact ⟨j + 1, by omega, by go_num, RR2, MD2⟩
          case measure => simp [intOf]; omega
        · have ej : j = m := by omega
          subst ej
          have hT : decide ((j : Int) < (j : Int)) = false := decide_eq_false (by omega)
          have n0 := Aside0.mk (MD.out.blk B0.out (by have := XW.out; omega))
          have n1 := Aside0.mk (MD.out.blk BM.out (by have := XW.out; omega))
          have n2 := Aside0.mk (show RingsAt wr j rs from ⟨RG.out.nb, RG.out.ng, fun r hr => ⟨MD.out.blk (RG.out.at_ r hr).blk (by have := (XL.out r hr).1; omega), MD.out.blk (RG.out.at_ r hr).row (by have := (XL.out r hr).2; omega), (RG.out.at_ r hr).len⟩⟩)
          have n3 := Aside0.mk (Kd.R_step HR.out (fun q _ hlt => MD.out.block q hlt (by have := HX.out; omega)))
          have n4 := Aside0.mk (show Below w.heap.size w wr from ⟨MD.out.os.trans HB.out.os, MD.out.tape.trans HB.out.tape, MD.out.output.trans HB.out.output, Nat.le_trans HB.out.size MD.out.size, fun i hi => (MD.out.block i (Nat.lt_of_lt_of_le hi HB.out.size) (by have := XW.out; omega)).trans (HB.out.block i hi)⟩)
          have n5 := Aside0.mk (n2.out.snoc RR.out XL.out (by simp) (by simp))
          clear B0 BM RG HR HB n2
          have B0 := n0
          have BM := n1
          have RG := n5
          have HR := n3
          have HB := n4
          clear n0 n1 n3 n4 n5
          have c1 := (blk_cell B0.out 1).trans rfl
          obtain ⟨b, hbX⟩ : ∃ b, X + 1 = b := ⟨_, rfl⟩
          rw [hbX] at RG RR ⊢
          clear RR MD
          go_wp2_with ((with_reducible refine gate_builtin (b := .append) (xs := #[.tmp 58, .tmp 60]) rfl ?_); at_builtin; refine Kd.R_append kptr (w0 := w) (w.heap.size) rfl (.tmp 58) (.tmp 60) 228 227 (.pointer none) 8 rfl Tryz.underlying228 info227 rfl (by decide) (by omega) v (rs.map Rg.b) b [.pointer (some ⟨b, 0, none⟩)] (fun _ => True) (fun _ => False) rfl (by first | (go_simp; done) | (go_simp; rfl)) ?aP (fun _ hk => hk.elim) (fun _ _ => trivial) ?aO ?aB ?aS ?aL ?_; (case aP => exact rfl); (case aO => exact (by (with_reducible repeat (first | apply Kd.R_alloc | apply Kd.R_drewN)); exact HR.out)); (case aB => exact (by repeat (first | exact HB.out | apply below_alloc | apply pw_below_drewN))); (case aS => exact (by repeat (first | exact (HB.out).size | apply Nat.le_trans (HB.out).size; simp))); (case aL => rw [List.length_map]; have := HL.out; have := HK.out; omega); intro v1 w8 ho hb hg hat; have b0 := Aside0.mk (blk_app HR.out hg B0.out (by decide)); have bm := Aside0.mk (blk_grown BM.out hg (R_ne2 HR.out BM.out (fun _ _ _ h => by cases h))); have rg := Aside0.mk (RG.out.step (fun k c t hk ht => blk_app HR.out hg hk (by rcases ht with rfl | rfl <;> decide))); obtain ⟨A1, cap1, hv1, _, _⟩ := Kd.R_reads ho; generalize List.length _ = n1 at hv1; subst hv1; have hr := Aside0.mk ho; have hbb := Aside0.mk hb; clear ho hb hg hat B0 BM RG HR HB; have c1 := (blk_cell b0.out 1).trans rfl; have f1 := blk_frozen b0.out 1)
          go_wp2
          go_roundw
          case rel => exact ⟨k + 1, _, rs ++ [⟨b, X, 0, j, fillTo q j j⟩], by omega, by go_num, ⟨by rw [List.length_append, List.length_singleton, HL.out]⟩, ⟨(blk_set b0.out 1 _).trans rfl⟩, ⟨by rw [List.map_append]; exact Kd.R_set hr.out b0.out (by decide) 1 _⟩, ⟨(Below.heap_setCell w8 ⟨w.heap.size + 1, 1, none⟩ _ w.heap.size (by simp)).trans bm.out⟩, ⟨rg.out.step (fun q c t hq ht => blk_far (p := ⟨w.heap.size + 1, 1, none⟩) hq (blk_ne hq b0.out (by rcases ht with rfl | rfl <;> decide)) _)⟩, ⟨fun r hr => by rcases List.mem_append.1 hr with h | h; exact HF.out r h; rw [List.mem_singleton.1 h]; exact ⟨rfl, rfl⟩⟩, ⟨below_set (j := 1) hbb.out (by omega)⟩⟩
          case measure => simp [intOf]; omega
    · have e : k = n := by omega
      subst e
      have hT : decide ((k : Int) < (k : Int)) = false := decide_eq_false (by omega)
      go_wp2
      go_ret2
      exact ⟨_, _, v, rs, rfl, HB.out, ⟨B0.out, HR.out, RG.out⟩, BM.out, by omega, Nat.le_refl _, HL.out, HF.out⟩
end Go.Proofs.YtjopodnlffaogaaGreatDoor.Tp
end
section
namespace Go.Proofs.YtjopodnlffaogaaGreatDoor.Tp
open Go.RowKit Go.Proofs.YtjopodnlffaogaaGreatDoorW.PrintWords Go.Proofs.YtjopodnlffaogaaGreatDoorW.PrintLast Go.Proofs.YtjopodnlffaogaaGreatDoorW.PrintMore
attribute [local go_sem] max2_int min2_int max_two min_two max_three min_three max_four min_four
set_option linter.unusedVariables false
set_option linter.unusedSimpArgs false
def kchan : Kd Nat := Kd.scalar (fun c : Nat => Value.chan (some c)) (fun _ => rfl)
abbrev chan0 : Obj := .chan 1 #[] false 0 0 false
theorem info196 : (Tryz.prog.info? 196).map (fun i => (i.zero, i.size, i.bytes)) = some (some (.chan none), 1, 8) := by kernel_rfl
structure Chans (W : World) (B : Nat) (cs : List Nat) : Prop where
  nodup : cs.Nodup
  at_ : ∀ c ∈ cs, B ≤ c ∧ W.heap[c]? = some chan0
theorem Chans.nil (W : World) (B : Nat) : Chans W B [] := ⟨List.nodup_nil, fun c h => by cases h⟩
theorem Chans.step {W W' : World} {B : Nat} {cs : List Nat} (h : Chans W B cs) (hk : ∀ c ∈ cs, W.heap[c]? = some chan0 → W'.heap[c]? = some chan0) : Chans W' B cs := ⟨h.nodup, fun c hc => ⟨(h.at_ c hc).1, hk c hc (h.at_ c hc).2⟩⟩
theorem Chans.below {W W' : World} {B : Nat} {cs : List Nat} (h : Chans W B cs) (hb : Below W.heap.size W W') : Chans W' B cs := h.step fun _ _ hc => (hb.block _ (blk_lt hc)).trans hc
theorem Chans.snoc {W : World} {B : Nat} {cs : List Nat} (h : Chans W B cs) (hB : B ≤ W.heap.size) : Chans (W.alloc chan0) B (cs ++ [W.heap.size]) := by
  refine ⟨?_, fun c hc => ?_⟩
  · rw [List.nodup_append]
    refine ⟨h.nodup, by simp, fun a ha b hb => ?_⟩
    have := blk_lt (h.at_ a ha).2
    rw [List.mem_singleton.1 hb]; omega
  · rcases List.mem_append.1 hc with hc | hc
    · exact ⟨(h.at_ c hc).1, blk_alloc (h.at_ c hc).2 _⟩
    · rw [List.mem_singleton.1 hc]; exact ⟨hB, blk_new W _⟩
theorem Chans.grown {W W' : World} {B : Nat} {cs : List Nat} {row : Option Nat} (h : Chans W B cs) (hg : W.grownBy W' row) (hr : ∀ k, row = some k → ∃ c t fr, W.heap[k]? = some (.cells c t fr)) : Chans W' B cs :=
  h.step fun c _ hc => blk_grown hc hg (fun e => by obtain ⟨x, y, z, hk⟩ := hr c e.symm; rw [hc] at hk; cases hk)
structure PermitsAt (W : World) (B b n : Nat) (v : Value) (cs : List Nat) : Prop where
  blk : W.heap[b]? = some (.cells #[v] 195 (0, 0))
  row : Kd.R kchan 196 W B (fun k => k ≠ b) v cs
  len : cs.length = n
  chans : Chans W B cs
set_option maxHeartbeats 4000000 in
set_option maxRecDepth 100000 in
theorem permitNew_calls (n : Nat) (w : World) (h0 : 1 ≤ n) (h1 : n ≤ 64) : Calls Tryz.prog 52 #[.int .i64 (n : Int)] w fun e w' =>
    e = .returned (.tuple #[.pointer (some ⟨w.heap.size, 0, none⟩), .int .i64 0]) ∧ Below w.heap.size w w' ∧ ∃ v cs, PermitsAt w' w.heap.size w.heap.size n v cs := by
  have e0 : decide ((n : Int) < 1) = false := decide_eq_false (by omega)
  have e1 : decide (64 < (n : Int)) = false := decide_eq_false (by omega)
  go_enter Tryz.func52, Tryz.ntmps52
  go_wp2
  clear e0 e1
  go_loopw [14] (fun i wr => ∃ (k : Nat) (v : Value) (cs : List Nat), k ≤ n ∧ i = .int .i64 k ∧ Aside0 (cs.length = k) ∧ Aside0 (wr.heap[w.heap.size]? = some (.cells #[v] 195 (0, 0))) ∧ Aside0 (Kd.R kchan 196 wr w.heap.size (fun k => k ≠ w.heap.size) v cs) ∧ Aside0 (Chans wr w.heap.size cs) ∧ Aside0 (Below w.heap.size w wr)) (fun i _ => n - (intOf i).toNat)
  case atStart => exact ⟨0, .slice none 0 0, [], Nat.zero_le _, rfl, ⟨rfl⟩, ⟨blk_new _ _⟩, ⟨Kd.R_nil _ _ _ _ _⟩, ⟨Chans.nil _ _⟩, ⟨below_alloc (Below.refl _ _) _⟩⟩
  case round =>
    obtain ⟨k, v, cs, hk, rfl, HL, B0, HR, HC, HB⟩ := hrel
    by_cases hlt : k < n
    · have HK := Aside0.mk (⟨hlt, h1⟩ : k < n ∧ n ≤ 64)
      have hT : decide ((k : Int) < (n : Int)) = true := decide_eq_true (by omega)
      go_wp2
      clear hT

      refine start_ (n := 11) (S := fun w' => w'.heap[w.heap.size]? = some (.cells #[v] 195 (0, 0))) (ds := [10]) #[false, false, false, false, false, false, false, false, false, false, false] (by kernel_rfl) rfl rfl B0.out (fun hHeld => ?_)
      have n_B0 := Aside0.mk ((show (wr.drew).heap[w.heap.size]? = some (.cells #[v] 195 (0, 0)) from B0.out))
      have n_HR := Aside0.mk (Kd.R_drew HR.out)
      have n_HC := Aside0.mk (HC.out.below (below_drew (Below.refl _ _)))
      have n_HB := Aside0.mk (below_drew HB.out)
      clear B0 HR HC HB
      have B0 := n_B0
      have HR := n_HR
      have HC := n_HC
      have HB := n_HB
      clear n_B0 n_HR n_HC n_HB
      generalize wr.drew = w2 at B0 HR HC HB hHeld ⊢
      refine pure_ (i := 0) (N := some 16) (v := ?_) (a' := ?_) #[true, false, false, false, false, false, false, false, false, false, false] rfl rfl (by kernel_rfl) (fun _ _ _ h => h) (Or.inl ⟨by rfl, ?_⟩) ?_ ?_
      rotate_left
      · intro w'
        go_simp
        with_reducible rfl
      rotate_left
      · simp only [Act.put, List.setIfInBounds_toArray, List.set_cons_zero, List.set_cons_succ, i64_w, i32_w]
        rfl
      refine pure_ (i := 1) (N := some 17) (v := ?_) (a' := ?_) #[true, true, false, false, false, false, false, false, false, false, false] rfl rfl (by kernel_rfl) (fun _ _ _ h => h) (Or.inl ⟨by rfl, ?_⟩) ?_ ?_
      rotate_left
      · intro w'
        go_simp
        with_reducible rfl
      rotate_left
      · simp only [Act.put, List.setIfInBounds_toArray, List.set_cons_zero, List.set_cons_succ, i64_w, i32_w]
        rfl
      refine pure_ (i := 2) (N := some 18) (v := ?_) (a' := ?_) #[true, true, true, false, false, false, false, false, false, false, false] rfl rfl (by kernel_rfl) (fun _ _ _ h => h) (Or.inl ⟨by rfl, ?_⟩) ?_ ?_
      rotate_left
      · intro w'
        go_simp
        with_reducible rfl
      rotate_left
      · simp only [Act.put, List.setIfInBounds_toArray, List.set_cons_zero, List.set_cons_succ, i64_w, i32_w]
        rfl
      refine pure_ (i := 3) (N := some 19) (v := ?_) (a' := ?_) #[true, true, true, true, false, false, false, false, false, false, false] rfl rfl (by kernel_rfl) (fun _ _ _ h => h) (Or.inl ⟨by rfl, ?_⟩) ?_ ?_
      rotate_left
      · intro w'
        go_simp
        with_reducible rfl
      rotate_left
      · simp only [Act.put, List.setIfInBounds_toArray, List.set_cons_zero, List.set_cons_succ, i64_w, i32_w]
        rfl
      refine take_ (i := 4) (N := some 20) (v := v) (a' := ?_) #[true, true, true, true, true, false, false, false, false, false, false] rfl rfl (by kernel_rfl) (fun _ _ _ h => h) (Or.inl ⟨by rfl, ?_⟩) hHeld ?_ ?_
      · intro w' hS
        have c0 := (blk_cell hS 0).trans rfl
        clear hHeld hS
        go_simp
      rotate_left
      · simp only [Act.put, List.setIfInBounds_toArray, List.set_cons_zero, List.set_cons_succ, i64_w, i32_w]
        rfl
      refine one_ (i := 5) (N := some 21) #[true, true, true, true, true, true, false, false, false, false, false] rfl rfl (by kernel_rfl) (by decide) (fun K hK => ?_)
      refine value_ (v := .chan (some w2.heap.size)) (w1 := w2.alloc chan0) (by rfl) rfl (by kernel_rfl) ?_
      have HC' := Aside0.mk (HC.out.snoc HB.out.size)
      have HW := Aside0.mk HB.out.size
      clear HC
      have n_B0 := Aside0.mk (blk_alloc B0.out chan0)
      have n_HR := Aside0.mk (Kd.R_alloc HR.out chan0)
      have n_HB := Aside0.mk (below_alloc HB.out chan0)
      clear B0 HR HB hHeld
      have B0 := n_B0
      have HR := n_HR
      have HB := n_HB
      clear n_B0 n_HR n_HB
      refine hK.out _ _ B0.out (fun hHeld => ?_)
      clear hK K
      refine norm_ (a' := ?_) ?_ ?_
      rotate_left
      · show Act.put _ (some 21) _ = _
        simp only [Act.put, List.setIfInBounds_toArray, List.set_cons_zero, List.set_cons_succ, i64_w, i32_w]
        rfl
      generalize w2.alloc chan0 = w3 at B0 HR HB HC' hHeld ⊢
      generalize w2.heap.size = c at HC' HW ⊢
      refine one_ (i := 6) (N := some 22) #[true, true, true, true, true, true, true, false, false, false, false] rfl rfl (by kernel_rfl) (by decide) (fun K hK => ?_)
      refine value_ (v := .slice (some ⟨w3.heap.size, 0, none⟩) 1 1) (w1 := w3.alloc (.cells #[.chan (some c)] 196)) (by rfl) rfl (by kernel_rfl) ?_
      refine hK.out _ _ (blk_alloc B0.out _) (fun hHeld => ?_)
      clear hK K
      refine norm_ (a' := ?_) ?_ ?_
      rotate_left
      · show Act.put _ (some 22) _ = _
        simp only [Act.put, List.setIfInBounds_toArray, List.set_cons_zero, List.set_cons_succ, i64_w, i32_w]
        rfl
      refine one_ (i := 7) (N := some 23) #[true, true, true, true, true, true, true, true, false, false, false] rfl rfl (by kernel_rfl) (by decide) (fun K hK => ?_)
      refine Kd.R_append_step kchan (w0 := w) w.heap.size (by rfl) (.tmp 20) (.tmp 22) 193 196 (.chan none) 8 rfl Tryz.underlying193 info196 rfl (by decide) (by omega) v cs c [.chan (some c)] (fun k => k ≠ w.heap.size) (fun _ => False) rfl rfl rfl (fun _ hk => hk.elim) (fun q hq => by have := blk_lt B0.out; omega) HR.out HB.out HB.out.size (by have := HL.out; have := HK.out; omega) ?_
      intro v1 w4 ho hb hg hat
      have b0 := Aside0.mk (blk_grown B0.out hg (fun e => (HR.out.1 _ e.symm) rfl))
      have hc := Aside0.mk (HC'.out.grown hg (fun q hq => by obtain ⟨_, _, _, t, _, cells, hh⟩ := (Kd.R_bound HR.out).1 q hq; exact ⟨_, _, _, hh⟩))
      have hr := Aside0.mk ho
      have hbb := Aside0.mk hb
      obtain ⟨A1, cap1, hv1, _, _⟩ := Kd.R_reads ho
      obtain ⟨n1, hn1⟩ : ∃ n1, (cs ++ [c]).length = n1 := ⟨_, rfl⟩
      rw [hn1] at hv1
      clear hn1
      subst hv1
      clear B0 HC' HR HB ho hb hg hat hHeld
      refine hK.out _ _ b0.out (fun hHeld => ?_)
      clear hK K
      refine norm_ (a' := ?_) ?_ ?_
      rotate_left
      · show Act.put _ (some 23) _ = _
        simp only [Act.put, List.setIfInBounds_toArray, List.set_cons_zero, List.set_cons_succ, i64_w, i32_w]
        rfl
      refine pure_ (i := 8) (N := some 24) (v := ?_) (a' := ?_) #[true, true, true, true, true, true, true, true, true, false, false] rfl rfl (by kernel_rfl) (fun _ _ _ h => h) (Or.inl ⟨by rfl, ?_⟩) ?_ ?_
      rotate_left
      · intro w'
        go_simp
        with_reducible rfl
      rotate_left
      · simp only [Act.put, List.setIfInBounds_toArray, List.set_cons_zero, List.set_cons_succ, i64_w, i32_w]
        rfl
      refine pure_ (i := 9) (N := some 25) (v := ?_) (a' := ?_) #[true, true, true, true, true, true, true, true, true, true, false] rfl rfl (by kernel_rfl) (fun _ _ _ h => h) (Or.inl ⟨by rfl, ?_⟩) ?_ ?_
      rotate_left
      · intro w'
        go_simp
        with_reducible rfl
      rotate_left
      · simp only [Act.put, List.setIfInBounds_toArray, List.set_cons_zero, List.set_cons_succ, i64_w, i32_w]
        rfl
      refine last_ (i := 10) (N := none) #[true, true, true, true, true, true, true, true, true, true, true] rfl rfl (by kernel_rfl) (by decide) (fun K hK => ?_)
      refine skip_ (w1 := w4.setCell ⟨w.heap.size, 0, none⟩ (.slice A1 n1 cap1)) (by rfl) rfl ?_ ?_
      · clear hK hHeld
        have c0 := (blk_cell b0.out 0).trans rfl
        have f0 := blk_frozen b0.out 0
        go_simp
      have n_b0 := Aside0.mk ((blk_set b0.out 0 (.slice A1 n1 cap1)).trans rfl)
      have n_hr := Aside0.mk (Kd.R_far (p := ⟨w.heap.size, 0, none⟩) hr.out (fun q hq => hq) (.slice A1 n1 cap1))
      have n_hc := Aside0.mk (hc.out.step (fun c hc0 hcc => (Below.heap_setCell w4 ⟨w.heap.size, 0, none⟩ (.slice A1 n1 cap1) c (fun e => by have h := b0.out; rw [e] at hcc; rw [hcc] at h; cases h)).trans hcc))
      have n_hbb := Aside0.mk (below_set (j := 0) (v := (.slice A1 n1 cap1)) hbb.out (Nat.le_refl _))
      clear b0 hr hc hbb hHeld
      have b0 := n_b0
      have hr := n_hr
      have hc := n_hc
      have hbb := n_hbb
      clear n_b0 n_hr n_hc n_hbb
      generalize w4.setCell ⟨w.heap.size, 0, none⟩ (.slice A1 n1 cap1) = w5 at b0 hr hc hbb ⊢
      refine hK.out _ _ ?_
      clear hK K
      refine done_ (by kernel_rfl) ?_
      go_wp2
      go_roundw
      case rel => exact ⟨k + 1, _, cs ++ [c], by omega, by go_num, ⟨by rw [List.length_append, List.length_singleton, HL.out]⟩, b0, hr, hc, hbb⟩
      case measure => simp [intOf]; omega
    · have e : k = n := by omega
      subst e
      have hT : decide ((k : Int) < (k : Int)) = false := decide_eq_false (by omega)
      go_wp2
      go_ret2
      exact ⟨rfl, HB.out, v, cs, B0.out, HR.out, HL.out, HC.out⟩
end Go.Proofs.YtjopodnlffaogaaGreatDoor.Tp
end
section
namespace Go.Proofs.YtjopodnlffaogaaGreatDoor.Tp
open Go.RowKit Go.Proofs.YtjopodnlffaogaaGreatDoorW.PrintWords Go.Proofs.YtjopodnlffaogaaGreatDoorW.PrintLast Go.Proofs.YtjopodnlffaogaaGreatDoorW.PrintMore
attribute [local go_sem] max2_int min2_int max_two min_two max_three min_three max_four min_four
set_option linter.unusedVariables false
set_option linter.unusedSimpArgs false
structure Sl where
  looks : Int
  addr : Int
def ksl : Kd Sl := Kd.iso (Kd.pair (Kd.int .i64) (Kd.int .i64)) (fun x : Sl => (x.looks, x.addr))
theorem ksl_mkM (w : World) (base : Nat) (ok : Nat → Prop) (x : Sl) : ksl.M w base ok x [.int .i64 x.looks, .int .i64 x.addr] := ⟨[.int .i64 x.looks], [.int .i64 x.addr], rfl, rfl, rfl⟩
theorem info125 : (Tryz.prog.info? 125).map (fun i => (i.zero, i.size, i.bytes)) = some (some (.agg #[.int .i64 0, .int .i64 0]), 2, 16) := by kernel_rfl
structure WaitsAt (W : World) (B bw bp : Nat) (spin : Int) (v vp : Value) (sl : List Sl) (cs : List Nat) : Prop where
  blk : W.heap[bw]? = some (.cells #[.int .i64 spin, v, .pointer (some ⟨bp, 0, none⟩)] 123 (0, 0))
  row : Kd.R ksl 125 W B (fun _ => True) v sl
  pblk : W.heap[bp]? = some (.cells #[vp] 195 (0, 0))
  prow : Kd.R kchan 196 W B (fun _ => True) vp cs
  chans : Chans W B cs
  len : cs.length = sl.length
set_option maxHeartbeats 4000000 in
set_option maxRecDepth 100000 in
theorem parkNew_calls (n : Nat) (spin : Int) (w : World) (h0 : 1 ≤ n) (h1 : n ≤ 64) (s0 : 1 ≤ spin) (s1 : spin ≤ 1000) : Calls Tryz.prog 24 #[.int .i64 (n : Int), .int .i64 spin] w fun e w' =>
    ∃ bw bp v vp cs, e = .returned (.tuple #[.pointer (some ⟨bw, 0, none⟩), .int .i64 0]) ∧ Below w.heap.size w w' ∧ WaitsAt w' w.heap.size bw bp spin v vp (List.replicate n ⟨0, -1⟩) cs ∧ w.heap.size ≤ bw ∧ w.heap.size ≤ bp := by
  have e0 : decide (spin < 1) = false := decide_eq_false (by omega)
  have e1 : decide (1000 < spin) = false := decide_eq_false (by omega)
  go_enter Tryz.func24, Tryz.ntmps24
  go_wp2_with (go_at_call 52; refine (permitNew_calls n w h0 h1).mono ?_; rintro e w1 ⟨rfl, hb, vp, cs, hp⟩; have HB := Aside0.mk hb; have HP := Aside0.mk hp; clear hb hp)

  clear e0 e1
  go_loopw [29] (fun i wr => ∃ (k : Nat) (v : Value), k ≤ n ∧ i = .int .i64 k ∧ Aside0 (wr.heap[w1.heap.size]? = some (.cells #[.int .i64 spin, v, .pointer (some ⟨w.heap.size, 0, none⟩)] 123 (0, 0))) ∧ Aside0 (Kd.R ksl 125 wr w.heap.size (fun _ => True) v (List.replicate k ⟨0, -1⟩)) ∧ Aside0 (wr.heap[w.heap.size]? = some (.cells #[vp] 195 (0, 0))) ∧ Aside0 (Kd.R kchan 196 wr w.heap.size (fun _ => True) vp cs) ∧ Aside0 (Chans wr w.heap.size cs) ∧ Aside0 (Below w.heap.size w wr)) (fun i _ => n - (intOf i).toNat)
  case atStart => exact ⟨0, .slice none 0 0, Nat.zero_le _, rfl, ⟨blk_new _ _⟩, ⟨Kd.R_nil _ _ _ _ _⟩, ⟨blk_alloc HP.out.blk _⟩, ⟨Kd.R_mono (Kd.R_alloc HP.out.row _) (fun _ _ => trivial)⟩, ⟨HP.out.chans.below (below_alloc (Below.refl _ _) _)⟩, ⟨below_alloc HB.out _⟩⟩
  case round =>
    have HW := Aside0.mk HB.out.size
    have HLN := Aside0.mk HP.out.len
    clear HB HP
    obtain ⟨k, v, hk, rfl, B0, HR, PB, PR, CH, HB⟩ := hrel
    by_cases hlt : k < n
    · have HK := Aside0.mk (⟨hlt, h1⟩ : k < n ∧ n ≤ 64)
      have hT : decide ((k : Int) < (n : Int)) = true := decide_eq_true (by omega)
      have c1 := (blk_cell B0.out 1).trans rfl
      go_wp2_with ((with_reducible refine gate_builtin (b := .append) (xs := #[.tmp 35, .tmp 37]) rfl ?_); at_builtin; refine Kd.R_append ksl (w0 := w) w.heap.size rfl (.tmp 35) (.tmp 37) 121 125 (.agg #[.int .i64 0, .int .i64 0]) 16 rfl Tryz.underlying121 info125 rfl (by decide) (by omega) v (List.replicate k ⟨0, -1⟩) ⟨0, -1⟩ [.int .i64 0, .int .i64 (-1)] (fun _ => True) (fun _ => False) rfl (by first | (go_simp; done) | (go_simp; rfl)) ?aP (fun _ hk => hk.elim) (fun _ _ => trivial) ?aO ?aB ?aS ?aL ?_; (case aP => first | exact rfl | exact ksl_mkM _ _ _ ⟨0, -1⟩); (case aO => exact (by (with_reducible repeat (first | apply Kd.R_alloc | apply Kd.R_drewN)); exact HR.out)); (case aB => exact (by repeat (first | exact HB.out | apply below_alloc | apply pw_below_drewN))); (case aS => exact (by repeat (first | exact (HB.out).size | apply Nat.le_trans (HB.out).size; simp))); (case aL => rw [List.length_replicate]; have := HK.out; omega); intro v1 w8 ho hb hg hat; have b0 := Aside0.mk (blk_app HR.out hg B0.out (by decide)); have bp := Aside0.mk (blk_app HR.out hg PB.out (by decide)); have pr := Aside0.mk (R_other PR.out HR.out hg (by decide)); have ch := Aside0.mk (CH.out.grown hg (fun q hq => by obtain ⟨_, _, _, t, _, cells, hh⟩ := (Kd.R_bound HR.out).1 q hq; exact ⟨_, _, _, hh⟩)); obtain ⟨A1, cap1, hv1, _, _⟩ := Kd.R_reads ho; generalize List.length _ = n1 at hv1; subst hv1; have hr := Aside0.mk ho; have hbb := Aside0.mk hb; clear ho hb hg hat B0 PB PR CH HR HB; have c1 := (blk_cell b0.out 1).trans rfl; have f1 := blk_frozen b0.out 1)
      go_wp2
      go_roundw
      case rel => exact ⟨k + 1, _, by omega, by go_num, ⟨(blk_set b0.out 1 _).trans rfl⟩, ⟨by rw [List.replicate_succ']; exact Kd.R_set hr.out b0.out (by decide) 1 _⟩, ⟨blk_far (p := ⟨w1.heap.size, 1, none⟩) bp.out (blk_ne bp.out b0.out (by decide)) _⟩, ⟨Kd.R_set pr.out b0.out (by decide) 1 _⟩, ⟨ch.out.step (fun c _ hcc => (Below.heap_setCell w8 ⟨w1.heap.size, 1, none⟩ _ c (fun e => by have h := b0.out; rw [e] at hcc; rw [hcc] at h; cases h)).trans hcc)⟩, ⟨below_set (j := 1) hbb.out HW.out⟩⟩
      case measure => simp [intOf]; omega
    · have e : k = n := by omega
      subst e
      have hT : decide ((k : Int) < (k : Int)) = false := decide_eq_false (by omega)
      go_wp2
      go_ret2
      exact ⟨_, _, v, vp, cs, rfl, HB.out, ⟨B0.out, HR.out, PB.out, PR.out, CH.out, by rw [HLN.out, List.length_replicate]⟩, HW.out, Nat.le_refl _⟩
end Go.Proofs.YtjopodnlffaogaaGreatDoor.Tp
end
section
namespace Go.Proofs.YtjopodnlffaogaaGreatDoor.Tp
open Go.RowKit Go.Proofs.YtjopodnlffaogaaGreatDoorW.PrintWords Go.Proofs.YtjopodnlffaogaaGreatDoorW.PrintLast Go.Proofs.YtjopodnlffaogaaGreatDoorW.PrintMore
attribute [local go_sem] max2_int min2_int max_two min_two max_three min_three max_four min_four
set_option linter.unusedVariables false
set_option linter.unusedSimpArgs false
def Away (W : World) (S : Nat → Prop) (T : List Nat) : Prop := ∀ q, S q → ∃ c t, W.heap[q]? = some (.cells c t (0, 0)) ∧ ∀ y, y ∈ T → y ≠ t
theorem Away.sub {W : World} {S : Nat → Prop} {T T' : List Nat} (h : Away W S T) (hT : ∀ y, y ∈ T' → y ∈ T) : Away W S T' := fun q hq => by
  obtain ⟨c, t, h1, h2⟩ := h q hq
  exact ⟨c, t, h1, fun y hy => h2 y (hT y hy)⟩
theorem Away.blk {W W' : World} {S : Nat → Prop} {T : List Nat} {g t : Nat} {c : Array Value} (h : Away W S T) (hm : Mod S W W') (hb : W.heap[g]? = some (.cells c t (0, 0))) (ht : t ∈ T) : W'.heap[g]? = some (.cells c t (0, 0)) :=
  hm.blkT hb (fun q hq => by obtain ⟨c, u, h1, h2⟩ := h q hq; exact ⟨c, u, h1, h2 t ht⟩)
theorem Away.R {α : Type} {d : Kd α} {e B : Nat} {W W' : World} {S : Nat → Prop} {T : List Nat} {v : Value} {xs : List α} (h : Away W S T) (hm : Mod S W W') (hr : Kd.R d e W B (fun _ => True) v xs) (ht : ∀ y, y ∈ e :: d.E → y ∈ T) : Kd.R d e W' B (fun _ => True) v xs :=
  R_mod hr hm (fun q hq => by obtain ⟨c, u, h1, h2⟩ := h q hq; exact ⟨c, u, h1, fun y hy => h2 y (ht y hy)⟩)
theorem MemAt.below {W W' : World} {B bm bc gc : Nat} {vs vb : Value} {szs xs : List Int} (h : MemAt W B bm bc gc vs vb szs xs) (hb : Below W.heap.size W W') : MemAt W' B bm bc gc vs vb szs xs :=
  ⟨blk_below h.blk hb, Kd.R_step h.sizes (fun k _ hk => hb.block k hk), Kd.R_step h.begins (fun k _ hk => hb.block k hk), blk_below h.cblk hb, blk_below h.crow hb⟩
theorem PoolAt.below {W W' : World} {B bp bm m : Nat} {v : Value} {rs : List Rg} (h : PoolAt W B bp bm m v rs) (hb : Below W.heap.size W W') : PoolAt W' B bp bm m v rs :=
  ⟨blk_below h.blk hb, Kd.R_step h.row (fun k _ hk => hb.block k hk), h.rings.step (fun k c t hk _ => blk_below hk hb)⟩
theorem WaitsAt.below {W W' : World} {B bw bp : Nat} {spin : Int} {v vp : Value} {sl : List Sl} {cs : List Nat} (h : WaitsAt W B bw bp spin v vp sl cs) (hb : Below W.heap.size W W') : WaitsAt W' B bw bp spin v vp sl cs :=
  ⟨blk_below h.blk hb, Kd.R_step h.row (fun k _ hk => hb.block k hk), blk_below h.pblk hb, Kd.R_step h.prow (fun k _ hk => hb.block k hk), h.chans.below hb, h.len⟩
theorem MemAt.lower {W : World} {B B' bm bc gc : Nat} {vs vb : Value} {szs xs : List Int} (h : MemAt W B bm bc gc vs vb szs xs) (hB : B' ≤ B) : MemAt W B' bm bc gc vs vb szs xs :=
  ⟨h.blk, Kd.R_lower h.sizes hB, Kd.R_lower h.begins hB, h.cblk, h.crow⟩
theorem PoolAt.lower {W : World} {B B' bp bm m : Nat} {v : Value} {rs : List Rg} (h : PoolAt W B bp bm m v rs) (hB : B' ≤ B) : PoolAt W B' bp bm m v rs :=
  ⟨h.blk, Kd.R_lower h.row hB, h.rings⟩
theorem MemAt.mod {W W' : World} {S : Nat → Prop} {B bm bc gc : Nat} {vs vb : Value} {szs xs : List Int} (h : MemAt W B bm bc gc vs vb szs xs) (hm : Mod S W W') (hS : Away W S [261, 3, 310, 314]) : MemAt W' B bm bc gc vs vb szs xs :=
  ⟨hS.blk hm h.blk (by decide), hS.R hm h.sizes (by decide), hS.R hm h.begins (by decide), hS.blk hm h.cblk (by decide), hS.blk hm h.crow (by decide)⟩
theorem PoolAt.mod {W W' : World} {S : Nat → Prop} {B bp bm m : Nat} {v : Value} {rs : List Rg} (h : PoolAt W B bp bm m v rs) (hm : Mod S W W') (hS : Away W S [231, 227, 284, 22]) : PoolAt W' B bp bm m v rs :=
  ⟨hS.blk hm h.blk (by decide), hS.R hm h.row (by decide), h.rings.step (fun k c t hk ht => hS.blk hm hk (by rcases ht with rfl | rfl <;> decide))⟩
def cz (v : Int) : Cr := ⟨0, 0, 0, 0, 0, 0, 0, v, 0⟩
theorem cz_zero : cz 0 = Cr.zero := rfl
theorem cz_over (r7 : List Int) (k : Nat) (h : k < r7.length) : (coresRow ((over r7 k).map cz)).setIfInBounds (k * 9 + 7) (.int .u32 (r7.getD k 0)) = coresRow ((over r7 (k + 1)).map cz) := by
  have hl : ((over r7 k).map cz).length = r7.length := by rw [List.length_map, over_length r7 k (by omega)]
  rw [coresRow_set _ k 7 _ (cz (r7.getD k 0)) (by decide) (by omega)]
  · rw [← over_succ r7 k h, List.map_set]
  · have hz : (over r7 k)[k]'(by rw [over_length r7 k (by omega)]; exact h) = 0 := by
      unfold over
      rw [List.getElem_append_right (by simp; omega)]
      simp
    rw [List.getElem_map, hz]
    rfl
theorem cores_zero (r7 : List Int) : coresRow (List.replicate r7.length Cr.zero) = coresRow ((over r7 0).map cz) := by simp [over, cz_zero]
theorem cores_all (r7 : List Int) : coresRow ((over r7 r7.length).map cz) = coresRow (r7.map cz) := by rw [over_all]
structure ExecAt (W : World) (B be : Nat) (vl : Value) (l : List Ins) (lo un : Int) (bm bc gc : Nat) (vs vb : Value) (szs xs : List Int) (bp bq m : Nat) (vr : Value) (rs : List Rg) (gk : Nat) (cs : List Cr) : Prop where
  blk : W.heap[be]? = some (.cells #[vl, .int .i64 lo, .int .i64 un, .pointer (some ⟨bm, 0, none⟩), .pointer (some ⟨bp, 0, none⟩), .slice (some ⟨gk, 0, none⟩) cs.length cs.length] 149 (0, 0))
  code : Kd.R kins 214 W B (fun _ => True) vl l
  mem : MemAt W B bm bc gc vs vb szs xs
  pool : PoolAt W B bp bq m vr rs
  cores : W.heap[gk]? = some (.cells (coresRow cs) 192 (0, 0))
theorem ExecAt.below {W W' : World} {B be : Nat} {vl : Value} {l : List Ins} {lo un : Int} {bm bc gc : Nat} {vs vb : Value} {szs xs : List Int} {bp bq m : Nat} {vr : Value} {rs : List Rg} {gk : Nat} {cs : List Cr} (h : ExecAt W B be vl l lo un bm bc gc vs vb szs xs bp bq m vr rs gk cs) (hb : Below W.heap.size W W') : ExecAt W' B be vl l lo un bm bc gc vs vb szs xs bp bq m vr rs gk cs :=
  ⟨blk_below h.blk hb, Kd.R_step h.code (fun k _ hk => hb.block k hk), h.mem.below hb, h.pool.below hb, blk_below h.cores hb⟩
end Go.Proofs.YtjopodnlffaogaaGreatDoor.Tp
end
