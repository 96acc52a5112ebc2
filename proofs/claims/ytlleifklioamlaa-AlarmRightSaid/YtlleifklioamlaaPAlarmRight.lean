/- The pure statement of AlarmRight: what is opened, raised or done is right, no less urgent, and not since earlier. -/
import Derived.Test.YtlleifklioamlaaC
import Derived.Test.YtlleifklioamlaaRung
import Derived.Test.YtlleifklioamlaaQAlarmRight
namespace Go.Proofs.Ytlleifklioamlaa.F
open Go.RowKit Go.Proofs.YtlleifklioamlaaV.PrintWords Go.Proofs.YtlleifklioamlaaV.PrintLast
theorem open_right {b c r at_ : Int} (h : (openA b c r at_).2.2.2.2.2.2 = 0) : openA b c r at_ = (b, c, 1, r, at_, at_ + wt r, 0) ∧ IsA b c 1 r at_ (at_ + wt r) := by
  have hw := wt_bound r
  unfold openA at h ⊢
  by_cases hk : (1 ≤ b ∧ b ≤ 99 ∧ 0 ≤ c ∧ c ≤ 7) ∧ (1 ≤ r ∧ r ≤ 3) ∧ (0 ≤ at_ ∧ at_ ≤ 1000000000)
  · rw [if_pos hk]
    exact ⟨rfl, by unfold IsA; omega⟩
  · rw [if_neg hk] at h; simp at h
theorem raise_right {b c p r s u q at_ : Int} (h : (raiseA b c p r s u q at_).2.2.2.2.2.2 = 0) :
    ∃ p' r' s' u', raiseA b c p r s u q at_ = (b, c, p', r', s', u', 0) ∧ IsA b c p' r' s' u' ∧ r' ≤ r ∧ r' ≤ q ∧ s ≤ s' := by
  by_cases hk : okRaise b c p r s u q at_
  · by_cases hs : at_ < s
    · rw [raise_past hk hs] at h; simp at h
    · obtain ⟨hA, hq, ht⟩ := id hk
      have hm := mn_def r q
      have hw := wt_bound (mn r q)
      have hw2 := wt_bound q
      by_cases h3 : p = 3
      · subst h3
        refine ⟨_, _, _, _, raise_three hk hs, ?_, ?_, ?_, by omega⟩
        · unfold IsA at hA ⊢; split at hm <;> omega
        · split at hm <;> omega
        · split at hm <;> omega
      · by_cases h1 : p = 1 ∧ q < r
        · obtain ⟨rfl, hr⟩ := h1
          refine ⟨_, _, _, _, raise_one hk hs hr, ?_, by omega, by omega, by omega⟩
          have e1 := mn_def u (at_ + wt q)
          have e2 := mx_def (mn u (at_ + wt q)) s
          unfold IsA at hA ⊢
          split at e1 <;> split at e2 <;> omega
        · refine ⟨_, _, _, _, raise_else hk hs h3 h1, ?_, ?_, ?_, by omega⟩
          · unfold IsA at hA ⊢; split at hm <;> omega
          · split at hm <;> omega
          · split at hm <;> omega
  · rw [raise_bad hk] at h; simp at h
theorem do_right {b c p r s u d at_ n : Int} (h : (doA b c p r s u d at_ n).2.2.2.2.2.2 = 0) :
    ∃ p' u', doA b c p r s u d at_ n = (b, c, p', r, s, u', 0) ∧ IsA b c p' r s u' ∧ at_ ≤ u' := by
  by_cases hk : IsA b c p r s u ∧ okDeed d at_ n
  · by_cases hs : at_ < s
    · rw [doA_past hk.1 hk.2 hs] at h; simp at h
    · cases hn : (nx p d).2 with
      | false => rw [doA_phase hk.1 hk.2 hs hn] at h; simp at h
      | true =>
        by_cases hl : (d = 2 ∨ d = 6) ∧ at_ < u
        · rw [doA_early hk.1 hk.2 hs hn hl] at h; simp at h
        · refine ⟨_, _, doA_ok hk.1 hk.2 hs hn hl, ?_, ?_⟩
          · have hw := wt_bound r
            have hx : 1 ≤ (nx p d).1 ∧ (nx p d).1 ≤ 4 := by
              unfold nx at hn ⊢
              split
              · split
                · simp
                · rw [if_pos ‹_›, if_neg ‹_›] at hn; simp at hn
              · split
                · split
                  · rw [if_neg ‹_›, if_pos ‹_›, if_pos ‹_›] at hn; simp at hn
                  · simp
                · split
                  · split
                    · rw [if_neg ‹_›, if_neg ‹_›, if_pos ‹_›, if_pos ‹_›] at hn; simp at hn
                    · simp
                  · split
                    · simp
                    · rw [if_neg ‹_›, if_neg ‹_›, if_neg ‹_›, if_neg ‹_›] at hn; simp at hn
            obtain ⟨hA, ht, hd, ho⟩ := hk
            have hu : at_ ≤ untilD r d at_ n ∧ untilD r d at_ n ≤ at_ + 1000 := by
              unfold untilD
              split
              · omega
              · split <;> omega
            unfold IsA at hA ⊢
            omega
          · obtain ⟨hA, ht, hd, ho⟩ := hk
            have hw := wt_bound r
            unfold untilD
            split
            · omega
            · split <;> omega
  · rw [doA_bad hk] at h; simp at h
theorem right_j1 (k : Nat) (at_ d n b c p r s u : Int) : watchmanlaw06_AlarmRight.j1 (k + 5) at_ (doA b c p r s u d at_ n).2.2.2.2.2.2 false b c p r s u (doA b c p r s u d at_ n).1 (doA b c p r s u d at_ n).2.1 (doA b c p r s u d at_ n).2.2.1 (doA b c p r s u d at_ n).2.2.2.1 (doA b c p r s u d at_ n).2.2.2.2.1 (doA b c p r s u d at_ n).2.2.2.2.2.1 = some true := by
  rw [watchmanlaw06_AlarmRight.j1, if_neg (by simp), rung_true k, Option.bind_some, if_pos rfl]
  by_cases h0 : (doA b c p r s u d at_ n).2.2.2.2.2.2 = 0
  · obtain ⟨p', u', he, hA, hu⟩ := do_right h0
    rw [if_pos h0, he, alarm_Is_eq, Option.bind_some, if_pos (decide_eq_true hA), if_pos (by simp), if_pos rfl, if_pos rfl, decide_eq_true (show u' ≥ at_ from hu)]
  · rw [if_neg h0]
theorem right_j0 (k : Nat) (q at_ d n b c p r s u : Int) : watchmanlaw06_AlarmRight.j0 (k + 6) q at_ (raiseA b c p r s u q at_).2.2.2.2.2.2 (doA b c p r s u d at_ n).2.2.2.2.2.2 false b c p r s u (raiseA b c p r s u q at_).1 (raiseA b c p r s u q at_).2.1 (raiseA b c p r s u q at_).2.2.1 (raiseA b c p r s u q at_).2.2.2.1 (raiseA b c p r s u q at_).2.2.2.2.1 (raiseA b c p r s u q at_).2.2.2.2.2.1 (doA b c p r s u d at_ n).1 (doA b c p r s u d at_ n).2.1 (doA b c p r s u d at_ n).2.2.1 (doA b c p r s u d at_ n).2.2.2.1 (doA b c p r s u d at_ n).2.2.2.2.1 (doA b c p r s u d at_ n).2.2.2.2.2.1 = some true := by
  rw [watchmanlaw06_AlarmRight.j0, if_neg (by simp)]
  by_cases h0 : (raiseA b c p r s u q at_).2.2.2.2.2.2 = 0
  · obtain ⟨p', r', s', u', he, hA, h1, h2, h3⟩ := raise_right h0
    rw [if_pos h0, he, alarm_Is_eq, Option.bind_some, if_pos (decide_eq_true hA), if_neg (by simp), if_neg (by show ¬ r' > r; omega), if_neg (by show ¬ r' > q; omega), decide_eq_false (show ¬ s' < s from by omega)]
    exact right_j1 k at_ d n b c p r s u
  · rw [if_neg h0]
    exact right_j1 k at_ d n b c p r s u
theorem AlarmRight_pure : watchmanlaw06_AlarmRight.Pure := by
  intro b0 c0 b c p r s u q d at_ n _ _ _ _ _ _ _ _ _ _ _ _
  refine ⟨10, ?_⟩
  unfold watchmanlaw06_AlarmRight.f
  rw [alarm_Open_eq, Option.bind_some, alarm_Raise_eq 9, Option.bind_some, alarm_Do_eq, Option.bind_some]
  by_cases h0 : (openA b0 c0 q at_).2.2.2.2.2.2 = 0
  · obtain ⟨he, hA⟩ := open_right h0
    rw [if_pos h0, he, alarm_Is_eq, Option.bind_some, if_pos (decide_eq_true hA), if_neg (by simp), show ((b0, c0, (1 : Int), q, at_, at_ + wt q, (0 : Int)).2.2.2.2.1 != at_) = false from by simp]
    exact right_j0 4 q at_ d n b c p r s u
  · rw [if_neg h0]
    exact right_j0 4 q at_ d n b c p r s u
end Go.Proofs.Ytlleifklioamlaa.F
