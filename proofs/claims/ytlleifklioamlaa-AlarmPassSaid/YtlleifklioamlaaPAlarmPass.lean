/- The pure statement of AlarmPass: time till one time, and then till a later one, is as time till that. -/
import Derived.Test.YtlleifklioamlaaB
import Derived.Test.YtlleifklioamlaaRung
import Derived.Test.YtlleifklioamlaaQAlarmPass
namespace Go.Proofs.Ytlleifklioamlaa.F
open Go.RowKit Go.Proofs.YtlleifklioamlaaW.PrintWords Go.Proofs.YtlleifklioamlaaW.PrintLast
def passP (b c p r s u at_ : Int) : Int := if IsA b c p r s u then (if p = 4 ∧ u ≤ at_ then (if u + wt r ≤ at_ then 2 else 1) else if p = 1 ∧ u ≤ at_ then 2 else p) else p
def passU (b c p r s u at_ : Int) : Int := if IsA b c p r s u then (if p = 4 ∧ u ≤ at_ then u + wt r else u) else u
theorem passA_parts (b c p r s u at_ : Int) : passA b c p r s u at_ = (b, c, passP b c p r s u at_, r, s, passU b c p r s u at_) := by
  unfold passA passP passU
  by_cases h : IsA b c p r s u
  · rw [if_pos h, if_pos h, if_pos h]
    by_cases h4 : p = 4 ∧ u ≤ at_
    · rw [if_pos h4, if_pos h4, if_pos h4]
      by_cases h5 : u + wt r ≤ at_
      · rw [if_pos h5, if_pos h5]
      · rw [if_neg h5, if_neg h5]
    · rw [if_neg h4, if_neg h4, if_neg h4]
      by_cases h1 : p = 1 ∧ u ≤ at_
      · rw [if_pos h1, if_pos h1]
      · rw [if_neg h1, if_neg h1]
  · rw [if_neg h, if_neg h, if_neg h]
theorem pass_still {b c p r s u at_ : Int} (h : ¬ ((p = 1 ∨ p = 4) ∧ u ≤ at_)) : passA b c p r s u at_ = (b, c, p, r, s, u) := by
  unfold passA
  split
  · rw [if_neg (by omega), if_neg (by omega)]
  · rfl
theorem pass_one {b c r s u at_ : Int} (hA : IsA b c 1 r s u) (h : u ≤ at_) : passA b c 1 r s u at_ = (b, c, 2, r, s, u) := by
  unfold passA
  rw [if_pos hA, if_neg (by omega), if_pos ⟨rfl, h⟩]
theorem pass_two {b c r s u at_ : Int} (hA : IsA b c 4 r s u) (h : u + wt r ≤ at_) : passA b c 4 r s u at_ = (b, c, 2, r, s, u + wt r) := by
  have := wt_bound r
  unfold passA
  rw [if_pos hA, if_pos ⟨rfl, by omega⟩, if_pos h]
theorem pass_woke {b c r s u at_ : Int} (hA : IsA b c 4 r s u) (h0 : u ≤ at_) (h : ¬ u + wt r ≤ at_) : passA b c 4 r s u at_ = (b, c, 1, r, s, u + wt r) := by
  unfold passA
  rw [if_pos hA, if_pos ⟨rfl, h0⟩, if_neg h]
/-- Time till 'at_', and then till a later time. -/
theorem pass_pass (b c p r s u at_ later : Int) (hl : at_ ≤ later) (hu : IsA b c p r s u → u ≤ 1000000000) :
    passA b c (passP b c p r s u at_) r s (passU b c p r s u at_) later = passA b c p r s u later := by
  have hw := wt_bound r
  by_cases hA : IsA b c p r s u
  · have hu := hu hA
    have hA' : ∀ q v, 1 ≤ q → q ≤ 4 → s ≤ v → v ≤ 1000002000 → IsA b c q r s v := by intro q v _ _ _ _; unfold IsA at hA ⊢; omega
    have hs : s ≤ u := by unfold IsA at hA; omega
    have hpp := passA_parts b c p r s u at_
    by_cases h4 : p = 4 ∧ u ≤ at_
    · obtain ⟨rfl, h4⟩ := h4
      by_cases h5 : u + wt r ≤ at_
      · rw [pass_two hA h5] at hpp
        simp only [Prod.mk.injEq, true_and] at hpp
        rw [← hpp.1, ← hpp.2, pass_still (by omega), pass_two hA (by omega)]
      · rw [pass_woke hA h4 h5] at hpp
        simp only [Prod.mk.injEq, true_and] at hpp
        rw [← hpp.1, ← hpp.2]
        by_cases h6 : u + wt r ≤ later
        · rw [pass_one (hA' 1 _ (by omega) (by omega) (by omega) (by omega)) h6, pass_two hA h6]
        · rw [pass_still (by omega), pass_woke hA (by omega) h6]
    · by_cases h1 : p = 1 ∧ u ≤ at_
      · obtain ⟨rfl, h1⟩ := h1
        rw [pass_one hA h1] at hpp
        simp only [Prod.mk.injEq, true_and] at hpp
        rw [← hpp.1, ← hpp.2, pass_still (by omega), pass_one hA (by omega)]
      · rw [pass_still (by omega)] at hpp
        simp only [Prod.mk.injEq, true_and] at hpp
        rw [← hpp.1, ← hpp.2]
  · have e1 : passP b c p r s u at_ = p := by unfold passP; rw [if_neg hA]
    have e2 : passU b c p r s u at_ = u := by unfold passU; rw [if_neg hA]
    rw [e1, e2]
theorem passU_le (b c p r s u at_ : Int) : u ≤ passU b c p r s u at_ := by
  have := wt_bound r
  unfold passU
  split
  · split <;> omega
  · omega
theorem AlarmPass_pure : watchmanlaw06_AlarmPass.Pure := by
  intro b c p r s u at_ later _ _ _ _ _ _ _ _
  refine ⟨10, ?_⟩
  unfold watchmanlaw06_AlarmPass.f
  by_cases hl : later < at_
  · rw [if_pos hl, watchmanlaw06_AlarmPass.j0, if_pos rfl]
  · rw [if_neg hl, watchmanlaw06_AlarmPass.j0]
    by_cases hu : u > 1000000000
    · rw [if_pos (decide_eq_true hu)]
    · rw [if_neg (by simpa using hu), alarm_Pass_eq 5, Option.bind_some, passA_parts b c p r s u at_]
      rw [alarm_Pass_eq 5, Option.bind_some, alarm_Pass_eq 5, Option.bind_some]
      have hle := passU_le b c p r s u at_
      rw [if_neg (by simp), if_pos rfl, if_pos rfl, if_neg (by show ¬ passU b c p r s u at_ < u; omega), watchmanlaw06_AlarmPass.j1, if_neg (by simp), rung_true 4, Option.bind_some, if_pos rfl]
      rw [show passA (b, c, passP b c p r s u at_, r, s, passU b c p r s u at_).1 (b, c, passP b c p r s u at_, r, s, passU b c p r s u at_).2.1 (b, c, passP b c p r s u at_, r, s, passU b c p r s u at_).2.2.1 (b, c, passP b c p r s u at_, r, s, passU b c p r s u at_).2.2.2.1 (b, c, passP b c p r s u at_, r, s, passU b c p r s u at_).2.2.2.2.1 (b, c, passP b c p r s u at_, r, s, passU b c p r s u at_).2.2.2.2.2 later = passA b c p r s u later from pass_pass b c p r s u at_ later (by omega) (fun _ => by omega)]
      rw [if_pos (by simp)]
      show (alarm_Pass.f (4 + 4) b c (passP b c p r s u at_) r s (passU b c p r s u at_) at_).bind _ = _
      rw [alarm_Pass_eq, Option.bind_some, pass_pass b c p r s u at_ at_ (by omega) (fun _ => by omega), passA_parts]
      simp
end Go.Proofs.Ytlleifklioamlaa.F
