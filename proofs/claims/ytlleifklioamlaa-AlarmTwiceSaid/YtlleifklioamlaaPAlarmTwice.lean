/- The pure statement of AlarmTwice: raised twice at one time it is as raised once with the more urgent one of both. -/
import Derived.Test.YtlleifklioamlaaC
import Derived.Test.YtlleifklioamlaaRung
import Derived.Test.YtlleifklioamlaaQAlarmTwice
namespace Go.Proofs.Ytlleifklioamlaa.F
open Go.RowKit Go.Proofs.YtlleifklioamlaaV.PrintWords Go.Proofs.YtlleifklioamlaaV.PrintLast
theorem wt_mono {x y : Int} (h : x ≤ y) (h0 : 1 ≤ x) (h1 : y ≤ 3) : wt x ≤ wt y := by
  have hx : x = 1 ∨ x = 2 ∨ x = 3 := by omega
  have hy : y = 1 ∨ y = 2 ∨ y = 3 := by omega
  rcases hx with rfl | rfl | rfl <;> rcases hy with rfl | rfl | rfl <;> first | (exfalso; omega) | (unfold wt; decide)
theorem raise_ok_of {b c p r s u q at_ : Int} (h : (raiseA b c p r s u q at_).2.2.2.2.2.2 = 0) : okRaise b c p r s u q at_ ∧ ¬ at_ < s := by
  by_cases hk : okRaise b c p r s u q at_
  · by_cases hs : at_ < s
    · rw [raise_past hk hs] at h; simp at h
    · exact ⟨hk, hs⟩
  · rw [raise_bad hk] at h; simp at h
theorem twice (b c p r s u q o at_ : Int) (h : (raiseA b c p r s u q at_).2.2.2.2.2.2 = 0)
    (h2 : (raiseA (raiseA b c p r s u q at_).1 (raiseA b c p r s u q at_).2.1 (raiseA b c p r s u q at_).2.2.1 (raiseA b c p r s u q at_).2.2.2.1 (raiseA b c p r s u q at_).2.2.2.2.1 (raiseA b c p r s u q at_).2.2.2.2.2.1 o at_).2.2.2.2.2.2 = 0) :
    raiseA (raiseA b c p r s u q at_).1 (raiseA b c p r s u q at_).2.1 (raiseA b c p r s u q at_).2.2.1 (raiseA b c p r s u q at_).2.2.2.1 (raiseA b c p r s u q at_).2.2.2.2.1 (raiseA b c p r s u q at_).2.2.2.2.2.1 o at_ = raiseA b c p r s u (mn q o) at_ := by
  obtain ⟨hk, hs⟩ := raise_ok_of h
  obtain ⟨hk2, hs2⟩ := raise_ok_of h2
  obtain ⟨hA, hq, ht⟩ := id hk
  obtain ⟨hA2, ho, _⟩ := id hk2
  have hmo := mn_def q o
  have hk3 : okRaise b c p r s u (mn q o) at_ := ⟨hA, by split at hmo <;> omega, ht⟩
  have hsu : s ≤ u := by unfold IsA at hA; omega
  have hr : 1 ≤ r ∧ r ≤ 3 := by unfold IsA at hA; omega
  have hmr := mn_def r q
  by_cases h3 : p = 3
  · subst h3
    rw [raise_three hk hs] at hk2 hs2 ⊢
    rw [raise_three hk3 hs]
    simp only at hk2 hs2 ⊢
    have hm2 := mn_def (mn r q) o
    have hm3 := mn_def r (mn q o)
    have hall : mn (mn r q) o = mn r (mn q o) := by split at hmo <;> split at hmr <;> split at hm2 <;> split at hm3 <;> omega
    by_cases h1 : o < mn r q
    · rw [raise_one hk2 hs2 h1]
      have e : mn r (mn q o) = o := by rw [← hall, hm2, if_pos h1]
      have hwm := wt_mono (x := o) (y := mn r q) (by omega) (by omega) (by split at hmr <;> omega)
      have hw := wt_bound o
      rw [e, mn_def (at_ + wt (mn r q)), mx_def]
      have e2 : (if at_ + wt o < at_ + wt (mn r q) then at_ + wt o else at_ + wt (mn r q)) = at_ + wt o := by split <;> omega
      rw [e2, if_neg (by omega)]
    · rw [raise_else hk2 hs2 (by omega) (by omega)]
      rw [← hall, show mn (mn r q) o = mn r q from by rw [hm2, if_neg h1]]
  · by_cases h1 : p = 1
    · subst h1
      by_cases hqr : q < r
      · rw [raise_one hk hs hqr] at hk2 hs2 ⊢
        simp only at hk2 hs2 ⊢
        by_cases hoq : o < q
        · have e : mn q o = o := by rw [hmo, if_pos hoq]
          rw [raise_one hk2 hs2 hoq, e, raise_one (by rw [e] at hk3; exact hk3) hs (by omega)]
          have hwm := wt_mono (x := o) (y := q) (by omega) (by omega) (by omega)
          have hw := wt_bound o
          have e1 := mn_def u (at_ + wt q)
          have e2 := mx_def (mn u (at_ + wt q)) s
          have e3 := mn_def (mx (mn u (at_ + wt q)) s) (at_ + wt o)
          have e4 := mx_def (mn (mx (mn u (at_ + wt q)) s) (at_ + wt o)) s
          have e5 := mn_def u (at_ + wt o)
          have e6 := mx_def (mn u (at_ + wt o)) s
          have : mx (mn (mx (mn u (at_ + wt q)) s) (at_ + wt o)) s = mx (mn u (at_ + wt o)) s := by
            split at e1 <;> split at e2 <;> split at e3 <;> split at e4 <;> split at e5 <;> split at e6 <;> omega
          rw [this]
        · have e : mn q o = q := by rw [hmo, if_neg hoq]
          rw [raise_else hk2 hs2 (by omega) (by omega), e, raise_one (by rw [e] at hk3; exact hk3) hs hqr]
      · rw [raise_else hk hs h3 (by omega)] at hk2 hs2 ⊢
        simp only at hk2 hs2 ⊢
        have e : mn r q = r := by rw [hmr, if_neg hqr]
        rw [e] at hk2 ⊢
        by_cases hor : o < r
        · have e2 : mn q o = o := by rw [hmo, if_pos (by omega)]
          rw [raise_one hk2 hs2 hor, e2, raise_one (by rw [e2] at hk3; exact hk3) hs hor]
        · rw [raise_else hk2 hs2 h3 (by omega), raise_else hk3 hs h3 (by split at hmo <;> omega)]
          have hm3 := mn_def r (mn q o)
          have hm2 := mn_def r o
          have : mn r o = mn r (mn q o) := by split at hmo <;> split at hm2 <;> split at hm3 <;> omega
          rw [this]
    · rw [raise_else hk hs h3 (by omega)] at hk2 hs2 ⊢
      simp only at hk2 hs2 ⊢
      rw [raise_else hk2 hs2 h3 (by omega), raise_else hk3 hs h3 (by omega)]
      have hm3 := mn_def r (mn q o)
      have hm2 := mn_def (mn r q) o
      have : mn (mn r q) o = mn r (mn q o) := by split at hmo <;> split at hmr <;> split at hm2 <;> split at hm3 <;> omega
      rw [this]
theorem twice_ok (b c p r s u q o at_ : Int) (h : (raiseA b c p r s u q at_).2.2.2.2.2.2 = 0)
    (h2 : (raiseA (raiseA b c p r s u q at_).1 (raiseA b c p r s u q at_).2.1 (raiseA b c p r s u q at_).2.2.1 (raiseA b c p r s u q at_).2.2.2.1 (raiseA b c p r s u q at_).2.2.2.2.1 (raiseA b c p r s u q at_).2.2.2.2.2.1 o at_).2.2.2.2.2.2 = 0) :
    (raiseA b c p r s u (mn q o) at_).2.2.2.2.2.2 = 0 := by
  rw [← twice b c p r s u q o at_ h h2]; exact h2
theorem AlarmTwice_pure : watchmanlaw06_AlarmTwice.Pure := by
  intro b c p r s u q o at_ _ _ _ _ _ _ _ _ _
  refine ⟨10, ?_⟩
  unfold watchmanlaw06_AlarmTwice.f
  rw [alarm_Raise_eq 9, Option.bind_some, alarm_Raise_eq 9, Option.bind_some, alarm_Raise_eq 9, Option.bind_some]
  by_cases h0 : (raiseA b c p r s u q at_).2.2.2.2.2.2 = 0
  · rw [if_pos h0, watchmanlaw06_AlarmTwice.j0]
    generalize hX : raiseA (raiseA b c p r s u q at_).1 (raiseA b c p r s u q at_).2.1 (raiseA b c p r s u q at_).2.2.1 (raiseA b c p r s u q at_).2.2.2.1 (raiseA b c p r s u q at_).2.2.2.2.1 (raiseA b c p r s u q at_).2.2.2.2.2.1 o at_ = X
    by_cases h2 : X.2.2.2.2.2.2 = 0
    · have e := twice b c p r s u q o at_ h0 (by rw [hX]; exact h2)
      have e2 := twice_ok b c p r s u q o at_ h0 (by rw [hX]; exact h2)
      rw [if_neg (by simp [h2]), rung_true 5, Option.bind_some, if_pos rfl, if_pos e2, ← e, hX]
      simp
    · rw [if_pos (by simp [h2]), rung_true 5]; rfl
  · rw [if_neg h0, watchmanlaw06_AlarmTwice.j0, if_pos rfl, rung_true 5]; rfl
end Go.Proofs.Ytlleifklioamlaa.F
