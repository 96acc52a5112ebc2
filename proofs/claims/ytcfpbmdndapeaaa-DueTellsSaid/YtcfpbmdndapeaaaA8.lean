/- The alarm's functions of chapter 6, printed as plain Lean functions, come to these plain values, and time till one time and then till a later one is as time till that. Plain facts: no Go in them. -/
import Derived.Test.YtcfpbmdndapeaaaF7
set_option linter.unusedVariables false
set_option linter.unusedSimpArgs false
namespace Go.Proofs.Ytcfpbmdndapeaaa.F
open Go.RowKit Go.Proofs.YtcfpbmdndapeaaaV.PrintWords Go.Proofs.YtcfpbmdndapeaaaV.PrintLast

def IsA (b c p r s u : Int) : Prop := 1 ≤ b ∧ b ≤ 99 ∧ 0 ≤ c ∧ c ≤ 7 ∧ 1 ≤ p ∧ p ≤ 4 ∧ 1 ≤ r ∧ r ≤ 3 ∧ 0 ≤ s ∧ s ≤ 1000000000 ∧ s ≤ u ∧ u ≤ 1000002000
instance (b c p r s u : Int) : Decidable (IsA b c p r s u) := by unfold IsA; infer_instance
def wt (r : Int) : Int := if r = 1 then 10 else if r = 2 then 30 else if r = 3 then 90 else 0
theorem wt_bound (r : Int) : 0 ≤ wt r ∧ wt r ≤ 90 := by unfold wt; split <;> (try split) <;> (try split) <;> omega
theorem wt_pos (r : Int) : 0 < wt r ↔ 1 ≤ r ∧ r ≤ 3 := by unfold wt; split <;> (try split) <;> (try split) <;> omega
theorem wt_ne (r : Int) : wt r = 0 ↔ ¬ (1 ≤ r ∧ r ≤ 3) := by unfold wt; split <;> (try split) <;> (try split) <;> omega
theorem wf64 {x : Int} (h : (Lit.int .i64 x).wf = true) : -9223372036854775808 ≤ x ∧ x ≤ 9223372036854775807 := by
  simpa [Lit.wf, IntKind.min, IntKind.max, IntKind.signed, IntKind.bits] using h

theorem alarm_Wait_eq (r : Int) : alarm_Wait.f r = some (wt r) := by
  unfold alarm_Wait.f wt
  by_cases h : 1 ≤ r ∧ r ≤ 3
  · have hc : r = 1 ∨ r = 2 ∨ r = 3 := by omega
    rcases hc with rfl | rfl | rfl <;> rfl
  · by_cases h1 : r < 1
    · rw [if_pos h1, if_neg (by omega), if_neg (by omega), if_neg (by omega)]
    · rw [if_neg h1, if_pos (by omega), if_neg (by omega), if_neg (by omega), if_neg (by omega)]
theorem alarm_time_eq (n : Int) : alarm_time.f n = some (decide (0 ≤ n ∧ n ≤ 1000000000)) := by
  unfold alarm_time.f
  by_cases h : 0 ≤ n
  · rw [if_pos h]; simp [h]
  · rw [if_neg h]; simp [h]
theorem spot_Is_eq (b c : Int) : spot_Is.f b c = some (decide (1 ≤ b ∧ b ≤ 99 ∧ 0 ≤ c ∧ c ≤ 7)) := by
  unfold spot_Is.f spot_place_may.f
  by_cases h1 : b ≥ 1
  · rw [if_pos h1]
    by_cases h2 : b ≤ 99
    · rw [if_pos h2]
      by_cases h3 : c ≥ 0
      · rw [if_pos h3]; simp only [Option.bind_some]; congr 1; simp only [decide_eq_decide]; omega
      · rw [if_neg h3]; simp only [Option.bind_some]; congr 1; simp; omega
    · rw [if_neg h2]; simp only [Option.bind_some]; congr 1; simp; omega
  · rw [if_neg h1]; simp only [Option.bind_some]; congr 1; simp; omega
theorem alarm_Is_eq (b c p r s u : Int) : alarm_Is.f b c p r s u = some (decide (IsA b c p r s u)) := by
  unfold alarm_Is.f
  rw [spot_Is_eq, Option.bind_some]
  by_cases h : 1 ≤ b ∧ b ≤ 99 ∧ 0 ≤ c ∧ c ≤ 7
  · rw [if_pos (decide_eq_true h)]
    by_cases h1 : p ≥ 1
    · rw [if_pos h1]
      by_cases h2 : p ≤ 4
      · rw [if_pos h2, alarm_Wait_eq, Option.bind_some]
        have hw := wt_pos r
        by_cases h3 : wt r > 0
        · rw [if_pos h3, alarm_time_eq, Option.bind_some]
          by_cases h4 : 0 ≤ s ∧ s ≤ 1000000000
          · rw [if_pos (decide_eq_true h4)]
            by_cases h5 : u ≥ s
            · rw [if_pos h5]; congr 1; simp only [decide_eq_decide]; unfold IsA; omega
            · rw [if_neg h5]; congr 1; symm; apply decide_eq_false; unfold IsA; omega
          · rw [if_neg (by simpa using h4)]; congr 1; symm; apply decide_eq_false; unfold IsA; omega
        · rw [if_neg h3]; congr 1; symm; apply decide_eq_false; unfold IsA; omega
      · rw [if_neg h2]; congr 1; symm; apply decide_eq_false; unfold IsA; omega
    · rw [if_neg h1]; congr 1; symm; apply decide_eq_false; unfold IsA; omega
  · rw [if_neg (by simpa using h)]; congr 1; symm; apply decide_eq_false; unfold IsA; omega
/-- What a deed makes of a phase that an alarm may have: for these four deeds. -/
def nx (p d : Int) : Int × Bool := if d = 2 then (if p = 1 then (2, true) else (0, false)) else if d = 3 then (if p = 3 then (0, false) else (3, true)) else if d = 4 then (if p = 4 then (0, false) else (4, true)) else (if p = 4 then (1, true) else (0, false))
theorem four {p : Int} (h : 1 ≤ p ∧ p ≤ 4) : p = 1 ∨ p = 2 ∨ p = 3 ∨ p = 4 := by omega
theorem life_Next_eq (p d : Int) (hp : 1 ≤ p ∧ p ≤ 4) (hd : d = 2 ∨ d = 3 ∨ d = 4 ∨ d = 6) : life_Next.f p d = some (nx p d) := by
  rcases four hp with rfl | rfl | rfl | rfl <;> rcases hd with rfl | rfl | rfl | rfl <;> rfl
theorem wrap_small {x : Int} (h0 : -9223372036854775808 ≤ x) (h1 : x ≤ 9223372036854775807) : wrap64 x = x := by unfold wrap64; omega

/-- Time makes this of an alarm. -/
def passA (b c p r s u at_ : Int) : Int × Int × Int × Int × Int × Int :=
  if IsA b c p r s u then
    if p = 4 ∧ u ≤ at_ then (if u + wt r ≤ at_ then (b, c, 2, r, s, u + wt r) else (b, c, 1, r, s, u + wt r))
    else if p = 1 ∧ u ≤ at_ then (b, c, 2, r, s, u) else (b, c, p, r, s, u)
  else (b, c, p, r, s, u)

theorem due_eq (b c p r s u at_ : Int) : alarm_timed_due.f b c p r s u at_ = some (decide ((p = 1 ∨ p = 4) ∧ u ≤ at_)) := by
  unfold alarm_timed_due.f
  by_cases h : p = 1
  · rw [if_pos h]; simp [h]
  · rw [if_neg h]
    by_cases h4 : p = 4
    · rw [if_pos h4]; simp [h4]
    · rw [if_neg h4]; simp [h, h4]
theorem turned_eq (b c p r s u d at_ n : Int) (hp : 1 ≤ p ∧ p ≤ 4) (hd : d = 2 ∨ d = 3 ∨ d = 4 ∨ d = 6) : alarm_clock_turned.f b c p r s u d at_ n = some (b, c, (nx p d).1, r, s, wrap64 (at_ + n)) := by
  unfold alarm_clock_turned.f
  rw [life_Next_eq p d hp hd]; rfl
theorem escalated_eq (b c p r s u at_ n : Int) (hp : 1 ≤ p ∧ p ≤ 4) : alarm_clock_escalated.f b c p r s u at_ n = some (b, c, (nx p 2).1, r, s, wrap64 (at_ + 0)) := by
  unfold alarm_clock_escalated.f
  rw [turned_eq b c p r s u 2 at_ 0 hp (by omega)]; rfl
theorem woken_eq (b c p r s u at_ n : Int) (hp : 1 ≤ p ∧ p ≤ 4) : alarm_clock_woken.f b c p r s u at_ n = some (b, c, (nx p 6).1, r, s, wrap64 (at_ + wt r)) := by
  unfold alarm_clock_woken.f
  rw [alarm_Wait_eq, Option.bind_some, turned_eq b c p r s u 6 at_ (wt r) hp (by omega)]; rfl
theorem pass_stop (k : Nat) (b c p r s u at_ : Int) (h : ¬ ((p = 1 ∨ p = 4) ∧ u ≤ at_)) : alarm_Pass.l0 (k + 1) at_ b c p r s u = some (b, c, p, r, s, u) := by
  rw [alarm_Pass.l0, due_eq, Option.bind_some, if_neg (by simpa using h)]
theorem pass_wake (k : Nat) (b c r s u at_ : Int) (h : u ≤ at_) (h0 : -9223372036854775808 ≤ u) (h1 : u + wt r ≤ 9223372036854775807) : alarm_Pass.l0 (k + 1) at_ b c 4 r s u = alarm_Pass.l0 k at_ b c 1 r s (u + wt r) := by
  have hb := wt_bound r
  rw [alarm_Pass.l0, due_eq, Option.bind_some, if_pos (by simpa using h), if_pos rfl, woken_eq _ _ _ _ _ _ _ _ (by omega), Option.bind_some, wrap_small (by omega) (by omega)]
  rfl
theorem pass_rise (k : Nat) (b c r s u at_ : Int) (h : u ≤ at_) (h0 : -9223372036854775808 ≤ u) (h1 : u ≤ 9223372036854775807) : alarm_Pass.l0 (k + 1) at_ b c 1 r s u = alarm_Pass.l0 k at_ b c 2 r s u := by
  rw [alarm_Pass.l0, due_eq, Option.bind_some, if_pos (by simpa using h), if_neg (by omega), escalated_eq _ _ _ _ _ _ _ _ (by omega), Option.bind_some, Int.add_zero, wrap_small (by omega) (by omega)]
  rfl
theorem alarm_Pass_eq (k : Nat) (b c p r s u at_ : Int) : alarm_Pass.f (k + 4) b c p r s u at_ = some (passA b c p r s u at_) := by
  unfold alarm_Pass.f passA
  rw [alarm_Is_eq, Option.bind_some]
  by_cases h : IsA b c p r s u
  · rw [if_pos (decide_eq_true h), if_pos h]
    have hb := wt_bound r
    have hu : -9223372036854775808 ≤ u ∧ u ≤ 1000002000 := by unfold IsA at h; omega
    have hp : 1 ≤ p ∧ p ≤ 4 := by unfold IsA at h; omega
    by_cases h4 : p = 4 ∧ u ≤ at_
    · rw [if_pos h4]
      obtain ⟨rfl, h4⟩ := h4
      show alarm_Pass.l0 (k + 3 + 1) at_ b c 4 r s u = _
      rw [pass_wake _ _ _ _ _ _ _ h4 (by omega) (by omega)]
      by_cases h5 : u + wt r ≤ at_
      · rw [if_pos h5]
        show alarm_Pass.l0 (k + 2 + 1) at_ b c 1 r s (u + wt r) = _
        rw [pass_rise _ _ _ _ _ _ _ h5 (by omega) (by omega)]
        exact pass_stop (k + 1) b c 2 r s (u + wt r) at_ (by omega)
      · rw [if_neg h5]
        exact pass_stop (k + 2) b c 1 r s (u + wt r) at_ (by omega)
    · rw [if_neg h4]
      by_cases h1 : p = 1 ∧ u ≤ at_
      · rw [if_pos h1]
        obtain ⟨rfl, h1⟩ := h1
        show alarm_Pass.l0 (k + 3 + 1) at_ b c 1 r s u = _
        rw [pass_rise _ _ _ _ _ _ _ h1 (by omega) (by omega)]
        exact pass_stop (k + 2) b c 2 r s u at_ (by omega)
      · rw [if_neg h1]
        exact pass_stop (k + 3) b c p r s u at_ (by omega)
  · rw [if_neg (by simpa using h), if_neg h]

def passP (b c p r s u at_ : Int) : Int := if IsA b c p r s u then (if p = 4 ∧ u ≤ at_ then (if u + wt r ≤ at_ then 2 else 1) else if p = 1 ∧ u ≤ at_ then 2 else p) else p
def passU (b c p r s u at_ : Int) : Int := if IsA b c p r s u then (if p = 4 ∧ u ≤ at_ then u + wt r else u) else u
theorem passA_parts (b c p r s u at_ : Int) : passA b c p r s u at_ = (b, c, passP b c p r s u at_, r, s, passU b c p r s u at_) := by
  unfold passA passP passU
  by_cases h : IsA b c p r s u
  · rw [if_pos h, if_pos h, if_pos h]
    by_cases h4 : p = 4 ∧ u ≤ at_
    · rw [if_pos h4, if_pos h4, if_pos h4]
      by_cases h5 : u + wt r ≤ at_
      · rw [if_pos h5, if_pos h5]
      · rw [if_neg h5, if_neg h5]
    · rw [if_neg h4, if_neg h4, if_neg h4]
      by_cases h1 : p = 1 ∧ u ≤ at_
      · rw [if_pos h1, if_pos h1]
      · rw [if_neg h1, if_neg h1]
  · rw [if_neg h, if_neg h, if_neg h]
theorem pass_still {b c p r s u at_ : Int} (h : ¬ ((p = 1 ∨ p = 4) ∧ u ≤ at_)) : passA b c p r s u at_ = (b, c, p, r, s, u) := by
  unfold passA
  split
  · rw [if_neg (by omega), if_neg (by omega)]
  · rfl
theorem pass_one {b c r s u at_ : Int} (hA : IsA b c 1 r s u) (h : u ≤ at_) : passA b c 1 r s u at_ = (b, c, 2, r, s, u) := by
  unfold passA
  rw [if_pos hA, if_neg (by omega), if_pos ⟨rfl, h⟩]
theorem pass_two {b c r s u at_ : Int} (hA : IsA b c 4 r s u) (h : u + wt r ≤ at_) : passA b c 4 r s u at_ = (b, c, 2, r, s, u + wt r) := by
  have := wt_bound r
  unfold passA
  rw [if_pos hA, if_pos ⟨rfl, by omega⟩, if_pos h]
theorem pass_woke {b c r s u at_ : Int} (hA : IsA b c 4 r s u) (h0 : u ≤ at_) (h : ¬ u + wt r ≤ at_) : passA b c 4 r s u at_ = (b, c, 1, r, s, u + wt r) := by
  unfold passA
  rw [if_pos hA, if_pos ⟨rfl, h0⟩, if_neg h]
/-- Time till 'at_', and then till a later time. -/
theorem pass_pass (b c p r s u at_ later : Int) (hl : at_ ≤ later) (hu : IsA b c p r s u → u ≤ 1000000000) :
    passA b c (passP b c p r s u at_) r s (passU b c p r s u at_) later = passA b c p r s u later := by
  have hw := wt_bound r
  by_cases hA : IsA b c p r s u
  · have hu := hu hA
    have hA' : ∀ q v, 1 ≤ q → q ≤ 4 → s ≤ v → v ≤ 1000002000 → IsA b c q r s v := by intro q v _ _ _ _; unfold IsA at hA ⊢; omega
    have hs : s ≤ u := by unfold IsA at hA; omega
    have hpp := passA_parts b c p r s u at_
    by_cases h4 : p = 4 ∧ u ≤ at_
    · obtain ⟨rfl, h4⟩ := h4
      by_cases h5 : u + wt r ≤ at_
      · rw [pass_two hA h5] at hpp
        simp only [Prod.mk.injEq, true_and] at hpp
        rw [← hpp.1, ← hpp.2, pass_still (by omega), pass_two hA (by omega)]
      · rw [pass_woke hA h4 h5] at hpp
        simp only [Prod.mk.injEq, true_and] at hpp
        rw [← hpp.1, ← hpp.2]
        by_cases h6 : u + wt r ≤ later
        · rw [pass_one (hA' 1 _ (by omega) (by omega) (by omega) (by omega)) h6, pass_two hA h6]
        · rw [pass_still (by omega), pass_woke hA (by omega) h6]
    · by_cases h1 : p = 1 ∧ u ≤ at_
      · obtain ⟨rfl, h1⟩ := h1
        rw [pass_one hA h1] at hpp
        simp only [Prod.mk.injEq, true_and] at hpp
        rw [← hpp.1, ← hpp.2, pass_still (by omega), pass_one hA (by omega)]
      · rw [pass_still (by omega)] at hpp
        simp only [Prod.mk.injEq, true_and] at hpp
        rw [← hpp.1, ← hpp.2]
  · have e1 : passP b c p r s u at_ = p := by unfold passP; rw [if_neg hA]
    have e2 : passU b c p r s u at_ = u := by unfold passU; rw [if_neg hA]
    rw [e1, e2]
theorem passU_le (b c p r s u at_ : Int) : u ≤ passU b c p r s u at_ := by
  have := wt_bound r
  unfold passU
  split
  · split <;> omega
  · omega
end Go.Proofs.Ytcfpbmdndapeaaa.F
