/- Raising an alarm, printed as a plain Lean function, comes to this plain value; the reference's too. Plain facts. -/
import Derived.Test.YtlleifklioamlaaB
import Derived.Test.YtlleifklioamlaaF16
import Derived.Test.YtlleifklioamlaaF17
import Derived.Test.YtlleifklioamlaaF15
namespace Go.Proofs.Ytlleifklioamlaa.F
open Go.RowKit Go.Proofs.YtlleifklioamlaaV.PrintWords Go.Proofs.YtlleifklioamlaaV.PrintLast
theorem mn_def (x y : Int) : mn x y = if y < x then y else x := by unfold mn; omega
theorem mx_def (x y : Int) : mx x y = if x < y then y else x := by unfold mx; omega
def okRaise (b c p r s u q at_ : Int) : Prop := IsA b c p r s u ∧ (1 ≤ q ∧ q ≤ 3) ∧ (0 ≤ at_ ∧ at_ ≤ 1000000000)
instance (b c p r s u q at_ : Int) : Decidable (okRaise b c p r s u q at_) := by unfold okRaise; infer_instance
def raiseA (b c p r s u q at_ : Int) : Int × Int × Int × Int × Int × Int × Int :=
  if okRaise b c p r s u q at_ then
    if at_ < s then (0, 0, 0, 0, 0, 0, 62)
    else if p = 3 then (b, c, 1, mn r q, at_, at_ + wt (mn r q), 0)
    else if p = 1 ∧ q < r then (b, c, 1, q, s, mx (mn u (at_ + wt q)) s, 0)
    else (b, c, p, mn r q, s, u, 0)
  else (0, 0, 0, 0, 0, 0, 1)
theorem raise_bad {b c p r s u q at_ : Int} (h : ¬ okRaise b c p r s u q at_) : raiseA b c p r s u q at_ = (0, 0, 0, 0, 0, 0, 1) := by unfold raiseA; rw [if_neg h]
theorem raise_past {b c p r s u q at_ : Int} (h : okRaise b c p r s u q at_) (hs : at_ < s) : raiseA b c p r s u q at_ = (0, 0, 0, 0, 0, 0, 62) := by unfold raiseA; rw [if_pos h, if_pos hs]
theorem raise_three {b c r s u q at_ : Int} (h : okRaise b c 3 r s u q at_) (hs : ¬ at_ < s) : raiseA b c 3 r s u q at_ = (b, c, 1, mn r q, at_, at_ + wt (mn r q), 0) := by unfold raiseA; rw [if_pos h, if_neg hs, if_pos rfl]
theorem raise_one {b c r s u q at_ : Int} (h : okRaise b c 1 r s u q at_) (hs : ¬ at_ < s) (hq : q < r) : raiseA b c 1 r s u q at_ = (b, c, 1, q, s, mx (mn u (at_ + wt q)) s, 0) := by unfold raiseA; rw [if_pos h, if_neg hs, if_neg (by omega), if_pos ⟨rfl, hq⟩]
theorem raise_else {b c p r s u q at_ : Int} (h : okRaise b c p r s u q at_) (hs : ¬ at_ < s) (h3 : p ≠ 3) (hq : ¬ (p = 1 ∧ q < r)) : raiseA b c p r s u q at_ = (b, c, p, mn r q, s, u, 0) := by unfold raiseA; rw [if_pos h, if_neg hs, if_neg h3, if_neg hq]

theorem alarm_Raise_eq (k : Nat) (b c p r s u q at_ : Int) : alarm_Raise.f (k + 1) b c p r s u q at_ = some (raiseA b c p r s u q at_) := by
  unfold alarm_Raise.f
  have bad : ¬ okRaise b c p r s u q at_ → alarm_Raise.j0 (k + 1) q at_ true b c p r s u = some (raiseA b c p r s u q at_) := fun h => by
    rw [alarm_Raise.j0, if_pos rfl, raise_bad h]
  rw [alarm_Is_eq, Option.bind_some]
  by_cases h : IsA b c p r s u
  · rw [if_pos (decide_eq_true h), alarm_Wait_eq, Option.bind_some]
    by_cases hq : 1 ≤ q ∧ q ≤ 3
    · rw [if_neg (fun h0 => (wt_ne q).1 h0 hq), alarm_time_eq, Option.bind_some]
      by_cases ht : 0 ≤ at_ ∧ at_ ≤ 1000000000
      · have hk : okRaise b c p r s u q at_ := ⟨h, hq, ht⟩
        rw [decide_eq_true ht]
        show alarm_Raise.j0 (k + 1) q at_ false b c p r s u = _
        rw [alarm_Raise.j0, if_neg (by simp)]
        by_cases hs : at_ < s
        · rw [if_pos hs, raise_past hk hs]
        · rw [if_neg hs, alarm_Wait_eq, Option.bind_some, Option.bind_some]
          have hw := wt_bound (mn r q)
          by_cases h3 : p = 3
          · subst h3
            rw [if_pos rfl, wrap_small (by omega) (by omega), raise_three hk hs]
          · rw [if_neg h3]
            by_cases h1 : p = 1
            · subst h1
              rw [if_pos rfl]
              by_cases hr : q < r
              · have e : mn r q = q := by rw [mn_def]; exact if_pos hr
                rw [if_pos hr, raise_one hk hs hr, wrap_small (by omega) (by omega), e]
              · rw [if_neg hr, raise_else hk hs (by omega) (by omega)]
            · rw [if_neg h1, raise_else hk hs h3 (by omega)]
      · rw [decide_eq_false ht]
        exact bad (fun hk => ht hk.2.2)
    · rw [if_pos ((wt_ne q).2 hq)]
      exact bad (fun hk => hq hk.2.1)
  · rw [if_neg (by simpa using h)]
    exact bad (fun hk => h hk.1)

theorem ref06_Raise_eq (k : Nat) (b c p r s u q at_ : Int) : watchmanref06_Raise.f (k + 1) b c p r s u q at_ = some (raiseA b c p r s u q at_) := by
  unfold watchmanref06_Raise.f
  have bad : ¬ okRaise b c p r s u q at_ → watchmanref06_Raise.j0 (k + 1) q at_ true b c p r s u = some (raiseA b c p r s u q at_) := fun h => by
    rw [watchmanref06_Raise.j0, if_pos rfl, raise_bad h]
  rw [ref06_Is_eq, Option.bind_some]
  by_cases h : IsA b c p r s u
  · rw [if_pos (decide_eq_true h), ref06_Wait_eq, Option.bind_some]
    by_cases hq : 1 ≤ q ∧ q ≤ 3
    · rw [if_neg (fun h0 => (wt_ne q).1 h0 hq), ref06_time_eq, Option.bind_some]
      by_cases ht : 0 ≤ at_ ∧ at_ ≤ 1000000000
      · have hk : okRaise b c p r s u q at_ := ⟨h, hq, ht⟩
        rw [decide_eq_true ht]
        show watchmanref06_Raise.j0 (k + 1) q at_ false b c p r s u = _
        rw [watchmanref06_Raise.j0, if_neg (by simp)]
        by_cases hs : at_ < s
        · rw [if_pos hs, raise_past hk hs]
        · rw [if_neg hs]
          have hsu : s ≤ u := by unfold IsA at h; omega
          by_cases hr : q < r
          · have e : mn r q = q := by rw [mn_def]; exact if_pos hr
            have hw := wt_bound q
            rw [if_pos hr, ref06_Wait_eq, Option.bind_some, Option.bind_some]
            by_cases h3 : p = 3
            · subst h3
              rw [if_pos rfl, wrap_small (by omega) (by omega), raise_three hk hs, e]
            · rw [if_neg h3]
              by_cases h1 : p = 1
              · subst h1
                rw [if_pos rfl, if_neg (by omega), raise_one hk hs hr, wrap_small (by omega) (by omega), mn_def, mx_def]
                by_cases h5 : at_ + wt q < u
                · rw [if_pos h5, if_pos h5]
                  by_cases h6 : s < at_ + wt q
                  · rw [if_pos h6, if_neg (by omega)]
                  · rw [if_neg h6]
                    by_cases h7 : at_ + wt q < s
                    · rw [if_pos h7]
                    · rw [if_neg h7, show at_ + wt q = s from by omega]
                · rw [if_neg h5, if_neg h5]
                  by_cases h6 : s < u
                  · rw [if_pos h6, if_neg (by omega)]
                  · rw [if_neg h6, if_neg (by omega), show u = s from by omega]
              · rw [if_neg h1, raise_else hk hs h3 (by omega), e]
          · have e : mn r q = r := by rw [mn_def]; exact if_neg hr
            have hw := wt_bound r
            rw [if_neg hr, ref06_Wait_eq, Option.bind_some]
            by_cases h3 : p = 3
            · subst h3
              rw [if_pos rfl, wrap_small (by omega) (by omega), raise_three hk hs, e]
            · rw [if_neg h3, raise_else hk hs h3 (by omega), e]
              split <;> rfl
      · rw [decide_eq_false ht]
        exact bad (fun hk => ht hk.2.2)
    · rw [if_pos ((wt_ne q).2 hq)]
      exact bad (fun hk => hq hk.2.1)
  · rw [if_neg (by simpa using h)]
    exact bad (fun hk => h hk.1)

theorem ref06_Open_eq (b c r at_ : Int) : watchmanref06_Open.f b c r at_ = some (openA b c r at_) := by
  unfold watchmanref06_Open.f openA
  have hw := wt_bound r
  have hn := wt_ne r
  rw [ref04_Is_eq, Option.bind_some]
  by_cases h : 1 ≤ b ∧ b ≤ 99 ∧ 0 ≤ c ∧ c ≤ 7
  · rw [if_pos (decide_eq_true h), ref06_Wait_eq, Option.bind_some]
    by_cases h0 : wt r = 0
    · rw [if_pos h0, if_neg (fun hq => hn.1 h0 hq.2.1)]
    · rw [if_neg h0, ref06_time_eq, Option.bind_some]
      by_cases ht : 0 ≤ at_ ∧ at_ ≤ 1000000000
      · rw [if_pos (decide_eq_true ht), Option.bind_some, if_pos ⟨h, by omega, ht⟩, wrap_small (by omega) (by omega)]
      · rw [if_neg (by simpa using ht), if_neg (fun hq => ht hq.2.2)]
  · rw [if_neg (by simpa using h), if_neg (fun hq => h hq.1)]
end Go.Proofs.Ytlleifklioamlaa.F
