/- The alarm's functions, printed as plain Lean functions, come to these plain values (one alarm: bed, channel, phase, priority, since, until). Plain facts: no Go in them. -/
import Derived.Test.YtlleifklioamlaaF9
import Derived.Test.YtlleifklioamlaaF11
import Derived.Test.YtlleifklioamlaaF5
import Derived.Test.YtlleifklioamlaaF7
namespace Go.Proofs.Ytlleifklioamlaa.F
open Go.RowKit Go.Proofs.YtlleifklioamlaaV.PrintWords Go.Proofs.YtlleifklioamlaaV.PrintLast

def IsA (b c p r s u : Int) : Prop := 1 ≤ b ∧ b ≤ 99 ∧ 0 ≤ c ∧ c ≤ 7 ∧ 1 ≤ p ∧ p ≤ 4 ∧ 1 ≤ r ∧ r ≤ 3 ∧ 0 ≤ s ∧ s ≤ 1000000000 ∧ s ≤ u ∧ u ≤ 1000002000
instance (b c p r s u : Int) : Decidable (IsA b c p r s u) := by unfold IsA; infer_instance
def wt (r : Int) : Int := if r = 1 then 10 else if r = 2 then 30 else if r = 3 then 90 else 0
theorem wt_bound (r : Int) : 0 ≤ wt r ∧ wt r ≤ 90 := by unfold wt; split <;> (try split) <;> (try split) <;> omega
theorem wt_pos (r : Int) : 0 < wt r ↔ 1 ≤ r ∧ r ≤ 3 := by unfold wt; split <;> (try split) <;> (try split) <;> omega
theorem wt_ne (r : Int) : wt r = 0 ↔ ¬ (1 ≤ r ∧ r ≤ 3) := by unfold wt; split <;> (try split) <;> (try split) <;> omega
theorem wf64 {x : Int} (h : (Lit.int .i64 x).wf = true) : -9223372036854775808 ≤ x ∧ x ≤ 9223372036854775807 := by
  simpa [Lit.wf, IntKind.min, IntKind.max, IntKind.signed, IntKind.bits] using h

theorem alarm_Wait_eq (r : Int) : alarm_Wait.f r = some (wt r) := by
  unfold alarm_Wait.f wt
  by_cases h : 1 ≤ r ∧ r ≤ 3
  · have hc : r = 1 ∨ r = 2 ∨ r = 3 := by omega
    rcases hc with rfl | rfl | rfl <;> rfl
  · by_cases h1 : r < 1
    · rw [if_pos h1, if_neg (by omega), if_neg (by omega), if_neg (by omega)]
    · rw [if_neg h1, if_pos (by omega), if_neg (by omega), if_neg (by omega), if_neg (by omega)]
theorem ref06_Wait_eq (r : Int) : watchmanref06_Wait.f r = some (wt r) := by
  unfold watchmanref06_Wait.f wt
  split
  · rfl
  · split
    · rfl
    · split <;> rfl
theorem alarm_time_eq (n : Int) : alarm_time.f n = some (decide (0 ≤ n ∧ n ≤ 1000000000)) := by
  unfold alarm_time.f
  by_cases h : 0 ≤ n
  · rw [if_pos h]; simp [h]
  · rw [if_neg h]; simp [h]
theorem ref06_time_eq (n : Int) : watchmanref06_time.f n = some (decide (0 ≤ n ∧ n ≤ 1000000000)) := by
  unfold watchmanref06_time.f
  by_cases h : 0 ≤ n
  · rw [if_pos h]; simp [h]
  · rw [if_neg h]; simp [h]
theorem spot_Is_eq (b c : Int) : spot_Is.f b c = some (decide (1 ≤ b ∧ b ≤ 99 ∧ 0 ≤ c ∧ c ≤ 7)) := by
  unfold spot_Is.f spot_place_may.f
  by_cases h1 : b ≥ 1
  · rw [if_pos h1]
    by_cases h2 : b ≤ 99
    · rw [if_pos h2]
      by_cases h3 : c ≥ 0
      · rw [if_pos h3]; simp only [Option.bind_some]; congr 1; simp only [decide_eq_decide]; omega
      · rw [if_neg h3]; simp only [Option.bind_some]; congr 1; simp; omega
    · rw [if_neg h2]; simp only [Option.bind_some]; congr 1; simp; omega
  · rw [if_neg h1]; simp only [Option.bind_some]; congr 1; simp; omega
theorem ref04_Is_eq (b c : Int) : watchmanref04_Is.f b c = some (decide (1 ≤ b ∧ b ≤ 99 ∧ 0 ≤ c ∧ c ≤ 7)) := by
  unfold watchmanref04_Is.f
  by_cases h1 : b ≥ 1
  · rw [if_pos h1]
    by_cases h2 : b ≤ 99
    · rw [if_pos h2]
      by_cases h3 : c ≥ 0
      · rw [if_pos h3]; congr 1; simp only [decide_eq_decide]; omega
      · rw [if_neg h3]; congr 1; simp; omega
    · rw [if_neg h2]; congr 1; simp; omega
  · rw [if_neg h1]; congr 1; simp; omega
theorem alarm_Is_eq (b c p r s u : Int) : alarm_Is.f b c p r s u = some (decide (IsA b c p r s u)) := by
  unfold alarm_Is.f
  rw [spot_Is_eq, Option.bind_some]
  by_cases h : 1 ≤ b ∧ b ≤ 99 ∧ 0 ≤ c ∧ c ≤ 7
  · rw [if_pos (decide_eq_true h)]
    by_cases h1 : p ≥ 1
    · rw [if_pos h1]
      by_cases h2 : p ≤ 4
      · rw [if_pos h2, alarm_Wait_eq, Option.bind_some]
        have hw := wt_pos r
        by_cases h3 : wt r > 0
        · rw [if_pos h3, alarm_time_eq, Option.bind_some]
          by_cases h4 : 0 ≤ s ∧ s ≤ 1000000000
          · rw [if_pos (decide_eq_true h4)]
            by_cases h5 : u ≥ s
            · rw [if_pos h5]; congr 1; simp only [decide_eq_decide]; unfold IsA; omega
            · rw [if_neg h5]; congr 1; symm; apply decide_eq_false; unfold IsA; omega
          · rw [if_neg (by simpa using h4)]; congr 1; symm; apply decide_eq_false; unfold IsA; omega
        · rw [if_neg h3]; congr 1; symm; apply decide_eq_false; unfold IsA; omega
      · rw [if_neg h2]; congr 1; symm; apply decide_eq_false; unfold IsA; omega
    · rw [if_neg h1]; congr 1; symm; apply decide_eq_false; unfold IsA; omega
  · rw [if_neg (by simpa using h)]; congr 1; symm; apply decide_eq_false; unfold IsA; omega
theorem ref06_Is_eq (b c p r s u : Int) : watchmanref06_Is.f b c p r s u = some (decide (IsA b c p r s u)) := by
  unfold watchmanref06_Is.f
  rw [ref04_Is_eq, Option.bind_some]
  by_cases h : 1 ≤ b ∧ b ≤ 99 ∧ 0 ≤ c ∧ c ≤ 7
  · rw [if_pos (decide_eq_true h)]
    by_cases h1 : p ≥ 1
    · rw [if_pos h1]
      by_cases h2 : p ≤ 4
      · rw [if_pos h2]
        by_cases h3 : r ≥ 1
        · rw [if_pos h3]
          by_cases h3' : r ≤ 3
          · rw [if_pos h3', ref06_time_eq, Option.bind_some]
            by_cases h4 : 0 ≤ s ∧ s ≤ 1000000000
            · rw [if_pos (decide_eq_true h4)]
              by_cases h5 : u ≥ s
              · rw [if_pos h5]; congr 1; simp only [decide_eq_decide]; unfold IsA; omega
              · rw [if_neg h5]; congr 1; symm; apply decide_eq_false; unfold IsA; omega
            · rw [if_neg (by simpa using h4)]; congr 1; symm; apply decide_eq_false; unfold IsA; omega
          · rw [if_neg h3']; congr 1; symm; apply decide_eq_false; unfold IsA; omega
        · rw [if_neg h3]; congr 1; symm; apply decide_eq_false; unfold IsA; omega
      · rw [if_neg h2]; congr 1; symm; apply decide_eq_false; unfold IsA; omega
    · rw [if_neg h1]; congr 1; symm; apply decide_eq_false; unfold IsA; omega
  · rw [if_neg (by simpa using h)]; congr 1; symm; apply decide_eq_false; unfold IsA; omega

/-- What a deed makes of a phase that an alarm may have: for these four deeds. -/
def nx (p d : Int) : Int × Bool := if d = 2 then (if p = 1 then (2, true) else (0, false)) else if d = 3 then (if p = 3 then (0, false) else (3, true)) else if d = 4 then (if p = 4 then (0, false) else (4, true)) else (if p = 4 then (1, true) else (0, false))
theorem four {p : Int} (h : 1 ≤ p ∧ p ≤ 4) : p = 1 ∨ p = 2 ∨ p = 3 ∨ p = 4 := by omega
theorem life_Next_eq (p d : Int) (hp : 1 ≤ p ∧ p ≤ 4) (hd : d = 2 ∨ d = 3 ∨ d = 4 ∨ d = 6) : life_Next.f p d = some (nx p d) := by
  rcases four hp with rfl | rfl | rfl | rfl <;> rcases hd with rfl | rfl | rfl | rfl <;> rfl
theorem ref05_Next_eq (k : Nat) (p d : Int) (hp : 1 ≤ p ∧ p ≤ 4) (hd : d = 2 ∨ d = 3 ∨ d = 4 ∨ d = 6) : watchmanref05_Next.f (k + 1) p d = some (nx p d) := by
  rcases four hp with rfl | rfl | rfl | rfl <;> rcases hd with rfl | rfl | rfl | rfl <;> rfl

theorem wrap_small {x : Int} (h0 : -9223372036854775808 ≤ x) (h1 : x ≤ 9223372036854775807) : wrap64 x = x := by unfold wrap64; omega

/-- Time makes this of an alarm. -/
def passA (b c p r s u at_ : Int) : Int × Int × Int × Int × Int × Int :=
  if IsA b c p r s u then
    if p = 4 ∧ u ≤ at_ then (if u + wt r ≤ at_ then (b, c, 2, r, s, u + wt r) else (b, c, 1, r, s, u + wt r))
    else if p = 1 ∧ u ≤ at_ then (b, c, 2, r, s, u) else (b, c, p, r, s, u)
  else (b, c, p, r, s, u)

theorem due_eq (b c p r s u at_ : Int) : alarm_timed_due.f b c p r s u at_ = some (decide ((p = 1 ∨ p = 4) ∧ u ≤ at_)) := by
  unfold alarm_timed_due.f
  by_cases h : p = 1
  · rw [if_pos h]; simp [h]
  · rw [if_neg h]
    by_cases h4 : p = 4
    · rw [if_pos h4]; simp [h4]
    · rw [if_neg h4]; simp [h, h4]
theorem turned_eq (b c p r s u d at_ n : Int) (hp : 1 ≤ p ∧ p ≤ 4) (hd : d = 2 ∨ d = 3 ∨ d = 4 ∨ d = 6) : alarm_clock_turned.f b c p r s u d at_ n = some (b, c, (nx p d).1, r, s, wrap64 (at_ + n)) := by
  unfold alarm_clock_turned.f
  rw [life_Next_eq p d hp hd]; rfl
theorem escalated_eq (b c p r s u at_ n : Int) (hp : 1 ≤ p ∧ p ≤ 4) : alarm_clock_escalated.f b c p r s u at_ n = some (b, c, (nx p 2).1, r, s, wrap64 (at_ + 0)) := by
  unfold alarm_clock_escalated.f
  rw [turned_eq b c p r s u 2 at_ 0 hp (by omega)]; rfl
theorem acked_eq (b c p r s u at_ n : Int) (hp : 1 ≤ p ∧ p ≤ 4) : alarm_clock_acked.f b c p r s u at_ n = some (b, c, (nx p 3).1, r, s, wrap64 (at_ + 0)) := by
  unfold alarm_clock_acked.f
  rw [turned_eq b c p r s u 3 at_ 0 hp (by omega)]; rfl
theorem silenced_eq (b c p r s u at_ n : Int) (hp : 1 ≤ p ∧ p ≤ 4) : alarm_clock_silenced.f b c p r s u at_ n = some (b, c, (nx p 4).1, r, s, wrap64 (at_ + n)) := by
  unfold alarm_clock_silenced.f
  rw [turned_eq b c p r s u 4 at_ n hp (by omega)]; rfl
theorem woken_eq (b c p r s u at_ n : Int) (hp : 1 ≤ p ∧ p ≤ 4) : alarm_clock_woken.f b c p r s u at_ n = some (b, c, (nx p 6).1, r, s, wrap64 (at_ + wt r)) := by
  unfold alarm_clock_woken.f
  rw [alarm_Wait_eq, Option.bind_some, turned_eq b c p r s u 6 at_ (wt r) hp (by omega)]; rfl
theorem pass_stop (k : Nat) (b c p r s u at_ : Int) (h : ¬ ((p = 1 ∨ p = 4) ∧ u ≤ at_)) : alarm_Pass.l0 (k + 1) at_ b c p r s u = some (b, c, p, r, s, u) := by
  rw [alarm_Pass.l0, due_eq, Option.bind_some, if_neg (by simpa using h)]
theorem pass_wake (k : Nat) (b c r s u at_ : Int) (h : u ≤ at_) (h0 : -9223372036854775808 ≤ u) (h1 : u + wt r ≤ 9223372036854775807) : alarm_Pass.l0 (k + 1) at_ b c 4 r s u = alarm_Pass.l0 k at_ b c 1 r s (u + wt r) := by
  have hb := wt_bound r
  rw [alarm_Pass.l0, due_eq, Option.bind_some, if_pos (by simpa using h), if_pos rfl, woken_eq _ _ _ _ _ _ _ _ (by omega), Option.bind_some, wrap_small (by omega) (by omega)]
  rfl
theorem pass_rise (k : Nat) (b c r s u at_ : Int) (h : u ≤ at_) (h0 : -9223372036854775808 ≤ u) (h1 : u ≤ 9223372036854775807) : alarm_Pass.l0 (k + 1) at_ b c 1 r s u = alarm_Pass.l0 k at_ b c 2 r s u := by
  rw [alarm_Pass.l0, due_eq, Option.bind_some, if_pos (by simpa using h), if_neg (by omega), escalated_eq _ _ _ _ _ _ _ _ (by omega), Option.bind_some, Int.add_zero, wrap_small (by omega) (by omega)]
  rfl
theorem alarm_Pass_eq (k : Nat) (b c p r s u at_ : Int) : alarm_Pass.f (k + 4) b c p r s u at_ = some (passA b c p r s u at_) := by
  unfold alarm_Pass.f passA
  rw [alarm_Is_eq, Option.bind_some]
  by_cases h : IsA b c p r s u
  · rw [if_pos (decide_eq_true h), if_pos h]
    have hb := wt_bound r
    have hu : -9223372036854775808 ≤ u ∧ u ≤ 1000002000 := by unfold IsA at h; omega
    have hp : 1 ≤ p ∧ p ≤ 4 := by unfold IsA at h; omega
    by_cases h4 : p = 4 ∧ u ≤ at_
    · rw [if_pos h4]
      obtain ⟨rfl, h4⟩ := h4
      show alarm_Pass.l0 (k + 3 + 1) at_ b c 4 r s u = _
      rw [pass_wake _ _ _ _ _ _ _ h4 (by omega) (by omega)]
      by_cases h5 : u + wt r ≤ at_
      · rw [if_pos h5]
        show alarm_Pass.l0 (k + 2 + 1) at_ b c 1 r s (u + wt r) = _
        rw [pass_rise _ _ _ _ _ _ _ h5 (by omega) (by omega)]
        exact pass_stop (k + 1) b c 2 r s (u + wt r) at_ (by omega)
      · rw [if_neg h5]
        exact pass_stop (k + 2) b c 1 r s (u + wt r) at_ (by omega)
    · rw [if_neg h4]
      by_cases h1 : p = 1 ∧ u ≤ at_
      · rw [if_pos h1]
        obtain ⟨rfl, h1⟩ := h1
        show alarm_Pass.l0 (k + 3 + 1) at_ b c 1 r s u = _
        rw [pass_rise _ _ _ _ _ _ _ h1 (by omega) (by omega)]
        exact pass_stop (k + 2) b c 2 r s u at_ (by omega)
      · rw [if_neg h1]
        exact pass_stop (k + 3) b c p r s u at_ (by omega)
  · rw [if_neg (by simpa using h), if_neg h]

theorem turn_eq (k : Nat) (b c p r s u d at_ n : Int) (hp : 1 ≤ p ∧ p ≤ 4) (hd : d = 2 ∨ d = 3 ∨ d = 4 ∨ d = 6) :
    watchmanref06_turn.f (k + 1) b c p r s u d at_ n = some (b, c, (nx p d).1, r, s, if d = 4 then wrap64 (at_ + n) else if d = 6 then wrap64 (at_ + wt r) else at_) := by
  unfold watchmanref06_turn.f
  rw [ref05_Next_eq k p d hp hd, Option.bind_some]
  rcases hd with rfl | rfl | rfl | rfl
  · rfl
  · rfl
  · rfl
  · rw [if_neg (by omega), if_pos rfl, ref06_Wait_eq]; rfl
theorem ref06_Pass_eq (k : Nat) (b c p r s u at_ : Int) : watchmanref06_Pass.f (k + 8) b c p r s u at_ = some (passA b c p r s u at_) := by
  unfold watchmanref06_Pass.f passA
  rw [ref06_Is_eq, Option.bind_some]
  by_cases h : IsA b c p r s u
  · rw [if_pos (decide_eq_true h), if_pos h]
    have hb := wt_bound r
    have hu : -9223372036854775808 ≤ u ∧ u ≤ 1000002000 := by unfold IsA at h; omega
    have hp : 1 ≤ p ∧ p ≤ 4 := by unfold IsA at h; omega
    have w1 : wrap64 (0 + 1) = 1 := by unfold wrap64; omega
    have w2 : wrap64 (1 + 1) = 2 := by unfold wrap64; omega
    have w3 : wrap64 (2 + 1) = 3 := by unfold wrap64; omega
    -- the rounds that turn nothing
    have still : ∀ (m : Nat) (i q v : Int), (i = 0 ∨ i = 1 ∨ i = 2 ∨ i = 3) → ¬ (q = 4 ∧ v ≤ at_) → ¬ (q = 1 ∧ v ≤ at_) → watchmanref06_Pass.l0 (m + (3 - i.toNat) * 2 + 1) at_ i b c q r s v = some (b, c, q, r, s, v) := by
      intro m i q v hi n4 n1
      have step : ∀ (m : Nat) (i : Int), i < 3 → watchmanref06_Pass.l0 (m + 2) at_ i b c q r s v = watchmanref06_Pass.l0 m at_ (wrap64 (i + 1)) b c q r s v := by
        intro m i hi
        rw [watchmanref06_Pass.l0, if_pos hi]
        by_cases q4 : q = 4
        · rw [if_pos q4, watchmanref06_Pass.j1, if_neg (by simp; omega), if_neg (by omega)]
        · rw [if_neg q4, watchmanref06_Pass.j1, if_neg (by simp)]
          by_cases q1 : q = 1
          · rw [if_pos q1, if_neg (by omega)]
          · rw [if_neg q1]
      have last : ∀ m : Nat, watchmanref06_Pass.l0 (m + 1) at_ 3 b c q r s v = some (b, c, q, r, s, v) := by
        intro m
        rw [watchmanref06_Pass.l0, if_neg (by omega)]
      rcases hi with rfl | rfl | rfl | rfl
      · show watchmanref06_Pass.l0 (m + 5 + 2) at_ 0 b c q r s v = _
        rw [step _ _ (by omega), w1]
        show watchmanref06_Pass.l0 (m + 3 + 2) at_ 1 b c q r s v = _
        rw [step _ _ (by omega), w2]
        show watchmanref06_Pass.l0 (m + 1 + 2) at_ 2 b c q r s v = _
        rw [step _ _ (by omega), w3]
        exact last m
      · show watchmanref06_Pass.l0 (m + 3 + 2) at_ 1 b c q r s v = _
        rw [step _ _ (by omega), w2]
        show watchmanref06_Pass.l0 (m + 1 + 2) at_ 2 b c q r s v = _
        rw [step _ _ (by omega), w3]
        exact last m
      · show watchmanref06_Pass.l0 (m + 1 + 2) at_ 2 b c q r s v = _
        rw [step _ _ (by omega), w3]
        exact last m
      · exact last m
    by_cases h4 : p = 4 ∧ u ≤ at_
    · obtain ⟨rfl, h4⟩ := h4
      rw [if_pos ⟨rfl, h4⟩]
      show watchmanref06_Pass.l0 (k + 7 + 1) at_ 0 b c 4 r s u = _
      rw [watchmanref06_Pass.l0, if_pos (by omega), if_pos rfl]
      show watchmanref06_Pass.j1 (k + 6 + 1) at_ 0 _ b c 4 r s u = _
      rw [watchmanref06_Pass.j1, if_pos (decide_eq_true h4)]
      show (watchmanref06_turn.f (k + 5 + 1) b c 4 r s u 6 u 0).bind _ = _
      rw [turn_eq _ _ _ _ _ _ _ _ _ _ (by omega) (by omega), Option.bind_some, w1, if_neg (by omega), if_pos rfl, wrap_small (by omega) (by omega)]
      show watchmanref06_Pass.l0 (k + 5 + 1) at_ 1 b c 1 r s (u + wt r) = _
      by_cases h5 : u + wt r ≤ at_
      · rw [if_pos h5, watchmanref06_Pass.l0, if_pos (by omega), if_neg (by omega)]
        show watchmanref06_Pass.j1 (k + 4 + 1) at_ 1 false b c 1 r s (u + wt r) = _
        rw [watchmanref06_Pass.j1, if_neg (by simp), if_pos rfl, if_pos h5]
        show (watchmanref06_turn.f (k + 3 + 1) b c 1 r s (u + wt r) 2 (u + wt r) 0).bind _ = _
        rw [turn_eq _ _ _ _ _ _ _ _ _ _ (by omega) (by omega), Option.bind_some, w2, if_neg (by omega), if_neg (by omega)]
        exact still (k + 1) 2 2 (u + wt r) (by omega) (by omega) (by omega)
      · rw [if_neg h5]
        exact still (k + 1) 1 1 (u + wt r) (by omega) (by omega) (by omega)
    · rw [if_neg h4]
      by_cases h1 : p = 1 ∧ u ≤ at_
      · obtain ⟨rfl, h1⟩ := h1
        rw [if_pos ⟨rfl, h1⟩]
        show watchmanref06_Pass.l0 (k + 7 + 1) at_ 0 b c 1 r s u = _
        rw [watchmanref06_Pass.l0, if_pos (by omega), if_neg (by omega)]
        show watchmanref06_Pass.j1 (k + 6 + 1) at_ 0 false b c 1 r s u = _
        rw [watchmanref06_Pass.j1, if_neg (by simp), if_pos rfl, if_pos h1]
        show (watchmanref06_turn.f (k + 5 + 1) b c 1 r s u 2 u 0).bind _ = _
        rw [turn_eq _ _ _ _ _ _ _ _ _ _ (by omega) (by omega), Option.bind_some, w1, if_neg (by omega), if_neg (by omega)]
        exact still (k + 1) 1 2 u (by omega) (by omega) (by omega)
      · rw [if_neg h1]
        exact still (k + 1) 0 p u (by omega) h4 h1
  · rw [if_neg (by simpa using h), if_neg h]

end Go.Proofs.Ytlleifklioamlaa.F
