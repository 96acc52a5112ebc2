/- The document's functions of chapters 4 to 6, printed as plain Lean functions, come to these plain values. -/
import Derived.Test.YtcfpbmdndapeaaaA8
import Derived.Test.YtcfpbmdndapeaaaF25
import Derived.Test.YtcfpbmdndapeaaaF24
import Derived.Test.YtcfpbmdndapeaaaF16
set_option linter.unusedVariables false
set_option linter.unusedSimpArgs false
namespace Go.Proofs.Ytcfpbmdndapeaaa.F
open Go.RowKit Go.Proofs.YtcfpbmdndapeaaaV.PrintWords Go.Proofs.YtcfpbmdndapeaaaV.PrintLast
theorem ref06_Wait_eq (r : Int) : watchmanref06_Wait.f r = some (wt r) := by
  unfold watchmanref06_Wait.f wt
  split
  · rfl
  · split
    · rfl
    · split <;> rfl
theorem ref06_time_eq (n : Int) : watchmanref06_time.f n = some (decide (0 ≤ n ∧ n ≤ 1000000000)) := by
  unfold watchmanref06_time.f
  by_cases h : 0 ≤ n
  · rw [if_pos h]; simp [h]
  · rw [if_neg h]; simp [h]
theorem ref04_Is_eq (b c : Int) : watchmanref04_Is.f b c = some (decide (1 ≤ b ∧ b ≤ 99 ∧ 0 ≤ c ∧ c ≤ 7)) := by
  unfold watchmanref04_Is.f
  by_cases h1 : b ≥ 1
  · rw [if_pos h1]
    by_cases h2 : b ≤ 99
    · rw [if_pos h2]
      by_cases h3 : c ≥ 0
      · rw [if_pos h3]; congr 1; simp only [decide_eq_decide]; omega
      · rw [if_neg h3]; congr 1; simp; omega
    · rw [if_neg h2]; congr 1; simp; omega
  · rw [if_neg h1]; congr 1; simp; omega
theorem ref06_Is_eq (b c p r s u : Int) : watchmanref06_Is.f b c p r s u = some (decide (IsA b c p r s u)) := by
  unfold watchmanref06_Is.f
  rw [ref04_Is_eq, Option.bind_some]
  by_cases h : 1 ≤ b ∧ b ≤ 99 ∧ 0 ≤ c ∧ c ≤ 7
  · rw [if_pos (decide_eq_true h)]
    by_cases h1 : p ≥ 1
    · rw [if_pos h1]
      by_cases h2 : p ≤ 4
      · rw [if_pos h2]
        by_cases h3 : r ≥ 1
        · rw [if_pos h3]
          by_cases h3' : r ≤ 3
          · rw [if_pos h3', ref06_time_eq, Option.bind_some]
            by_cases h4 : 0 ≤ s ∧ s ≤ 1000000000
            · rw [if_pos (decide_eq_true h4)]
              by_cases h5 : u ≥ s
              · rw [if_pos h5]; congr 1; simp only [decide_eq_decide]; unfold IsA; omega
              · rw [if_neg h5]; congr 1; symm; apply decide_eq_false; unfold IsA; omega
            · rw [if_neg (by simpa using h4)]; congr 1; symm; apply decide_eq_false; unfold IsA; omega
          · rw [if_neg h3']; congr 1; symm; apply decide_eq_false; unfold IsA; omega
        · rw [if_neg h3]; congr 1; symm; apply decide_eq_false; unfold IsA; omega
      · rw [if_neg h2]; congr 1; symm; apply decide_eq_false; unfold IsA; omega
    · rw [if_neg h1]; congr 1; symm; apply decide_eq_false; unfold IsA; omega
  · rw [if_neg (by simpa using h)]; congr 1; symm; apply decide_eq_false; unfold IsA; omega

/-- What a deed makes of a phase that an alarm may have: for these four deeds. -/
theorem ref05_Next_eq (k : Nat) (p d : Int) (hp : 1 ≤ p ∧ p ≤ 4) (hd : d = 2 ∨ d = 3 ∨ d = 4 ∨ d = 6) : watchmanref05_Next.f (k + 2) p d = some (nx p d) := by
  rcases four hp with rfl | rfl | rfl | rfl <;> rcases hd with rfl | rfl | rfl | rfl <;> rfl
theorem turn_eq (k : Nat) (b c p r s u d at_ n : Int) (hp : 1 ≤ p ∧ p ≤ 4) (hd : d = 2 ∨ d = 3 ∨ d = 4 ∨ d = 6) :
    watchmanref06_turn.f (k + 2) b c p r s u d at_ n = some (b, c, (nx p d).1, r, s, if d = 4 then wrap64 (at_ + n) else if d = 6 then wrap64 (at_ + wt r) else at_) := by
  unfold watchmanref06_turn.f
  rw [ref05_Next_eq k p d hp hd, Option.bind_some]
  rcases hd with rfl | rfl | rfl | rfl
  · rfl
  · rfl
  · rfl
  · rw [if_neg (by omega), if_pos rfl, ref06_Wait_eq]; rfl
theorem ref06_Pass_eq (k : Nat) (b c p r s u at_ : Int) : watchmanref06_Pass.f (k + 8) b c p r s u at_ = some (passA b c p r s u at_) := by
  unfold watchmanref06_Pass.f passA
  rw [ref06_Is_eq, Option.bind_some]
  by_cases h : IsA b c p r s u
  · rw [if_pos (decide_eq_true h), if_pos h]
    have hb := wt_bound r
    have hu : -9223372036854775808 ≤ u ∧ u ≤ 1000002000 := by unfold IsA at h; omega
    have hp : 1 ≤ p ∧ p ≤ 4 := by unfold IsA at h; omega
    have w1 : wrap64 (0 + 1) = 1 := by unfold wrap64; omega
    have w2 : wrap64 (1 + 1) = 2 := by unfold wrap64; omega
    have w3 : wrap64 (2 + 1) = 3 := by unfold wrap64; omega
    -- the rounds that turn nothing
    have still : ∀ (m : Nat) (i q v : Int), (i = 0 ∨ i = 1 ∨ i = 2 ∨ i = 3) → ¬ (q = 4 ∧ v ≤ at_) → ¬ (q = 1 ∧ v ≤ at_) → watchmanref06_Pass.l0 (m + (3 - i.toNat) * 2 + 1) at_ i b c q r s v = some (b, c, q, r, s, v) := by
      intro m i q v hi n4 n1
      have step : ∀ (m : Nat) (i : Int), i < 3 → watchmanref06_Pass.l0 (m + 2) at_ i b c q r s v = watchmanref06_Pass.l0 m at_ (wrap64 (i + 1)) b c q r s v := by
        intro m i hi
        rw [watchmanref06_Pass.l0, if_pos hi]
        by_cases q4 : q = 4
        · rw [if_pos q4, watchmanref06_Pass.j1, if_neg (by simp; omega), if_neg (by omega)]
        · rw [if_neg q4, watchmanref06_Pass.j1, if_neg (by simp)]
          by_cases q1 : q = 1
          · rw [if_pos q1, if_neg (by omega)]
          · rw [if_neg q1]
      have last : ∀ m : Nat, watchmanref06_Pass.l0 (m + 1) at_ 3 b c q r s v = some (b, c, q, r, s, v) := by
        intro m
        rw [watchmanref06_Pass.l0, if_neg (by omega)]
      rcases hi with rfl | rfl | rfl | rfl
      · show watchmanref06_Pass.l0 (m + 5 + 2) at_ 0 b c q r s v = _
        rw [step _ _ (by omega), w1]
        show watchmanref06_Pass.l0 (m + 3 + 2) at_ 1 b c q r s v = _
        rw [step _ _ (by omega), w2]
        show watchmanref06_Pass.l0 (m + 1 + 2) at_ 2 b c q r s v = _
        rw [step _ _ (by omega), w3]
        exact last m
      · show watchmanref06_Pass.l0 (m + 3 + 2) at_ 1 b c q r s v = _
        rw [step _ _ (by omega), w2]
        show watchmanref06_Pass.l0 (m + 1 + 2) at_ 2 b c q r s v = _
        rw [step _ _ (by omega), w3]
        exact last m
      · show watchmanref06_Pass.l0 (m + 1 + 2) at_ 2 b c q r s v = _
        rw [step _ _ (by omega), w3]
        exact last m
      · exact last m
    by_cases h4 : p = 4 ∧ u ≤ at_
    · obtain ⟨rfl, h4⟩ := h4
      rw [if_pos ⟨rfl, h4⟩]
      show watchmanref06_Pass.l0 (k + 7 + 1) at_ 0 b c 4 r s u = _
      rw [watchmanref06_Pass.l0, if_pos (by omega), if_pos rfl]
      show watchmanref06_Pass.j1 (k + 6 + 1) at_ 0 _ b c 4 r s u = _
      rw [watchmanref06_Pass.j1, if_pos (decide_eq_true h4)]
      show (watchmanref06_turn.f (k + 5 + 1) b c 4 r s u 6 u 0).bind _ = _
      rw [turn_eq _ _ _ _ _ _ _ _ _ _ (by omega) (by omega), Option.bind_some, w1, if_neg (by omega), if_pos rfl, wrap_small (by omega) (by omega)]
      show watchmanref06_Pass.l0 (k + 5 + 1) at_ 1 b c 1 r s (u + wt r) = _
      by_cases h5 : u + wt r ≤ at_
      · rw [if_pos h5, watchmanref06_Pass.l0, if_pos (by omega), if_neg (by omega)]
        show watchmanref06_Pass.j1 (k + 4 + 1) at_ 1 false b c 1 r s (u + wt r) = _
        rw [watchmanref06_Pass.j1, if_neg (by simp), if_pos rfl, if_pos h5]
        show (watchmanref06_turn.f (k + 3 + 1) b c 1 r s (u + wt r) 2 (u + wt r) 0).bind _ = _
        rw [turn_eq _ _ _ _ _ _ _ _ _ _ (by omega) (by omega), Option.bind_some, w2, if_neg (by omega), if_neg (by omega)]
        exact still (k + 1) 2 2 (u + wt r) (by omega) (by omega) (by omega)
      · rw [if_neg h5]
        exact still (k + 1) 1 1 (u + wt r) (by omega) (by omega) (by omega)
    · rw [if_neg h4]
      by_cases h1 : p = 1 ∧ u ≤ at_
      · obtain ⟨rfl, h1⟩ := h1
        rw [if_pos ⟨rfl, h1⟩]
        show watchmanref06_Pass.l0 (k + 7 + 1) at_ 0 b c 1 r s u = _
        rw [watchmanref06_Pass.l0, if_pos (by omega), if_neg (by omega)]
        show watchmanref06_Pass.j1 (k + 6 + 1) at_ 0 false b c 1 r s u = _
        rw [watchmanref06_Pass.j1, if_neg (by simp), if_pos rfl, if_pos h1]
        show (watchmanref06_turn.f (k + 5 + 1) b c 1 r s u 2 u 0).bind _ = _
        rw [turn_eq _ _ _ _ _ _ _ _ _ _ (by omega) (by omega), Option.bind_some, w1, if_neg (by omega), if_neg (by omega)]
        exact still (k + 1) 1 2 u (by omega) (by omega) (by omega)
      · rw [if_neg h1]
        exact still (k + 1) 0 p u (by omega) h4 h1
  · rw [if_neg (by simpa using h), if_neg h]

end Go.Proofs.Ytcfpbmdndapeaaa.F
