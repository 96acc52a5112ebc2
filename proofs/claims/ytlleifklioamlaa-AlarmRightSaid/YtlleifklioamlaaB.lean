/- Deeds, openings and raisings of an alarm, printed as plain Lean functions, come to these plain values; the reference's too. Plain facts: no Go in them. -/
import Derived.Test.YtlleifklioamlaaA
import Derived.Test.YtlleifklioamlaaF5
import Derived.Test.YtlleifklioamlaaF8
import Derived.Test.YtlleifklioamlaaF9
namespace Go.Proofs.Ytlleifklioamlaa.F
open Go.RowKit Go.Proofs.YtlleifklioamlaaV.PrintWords Go.Proofs.YtlleifklioamlaaV.PrintLast

def okDeed (d at_ n : Int) : Prop := (0 ≤ at_ ∧ at_ ≤ 1000000000) ∧ (d = 2 ∨ d = 3 ∨ d = 4 ∨ d = 6) ∧ ¬ (d = 4 ∧ (n < 1 ∨ 1000 < n))
instance (d at_ n : Int) : Decidable (okDeed d at_ n) := by unfold okDeed; infer_instance
def untilD (r d at_ n : Int) : Int := if d = 4 then at_ + n else if d = 6 then at_ + wt r else at_
def doA (b c p r s u d at_ n : Int) : Int × Int × Int × Int × Int × Int × Int :=
  if IsA b c p r s u ∧ okDeed d at_ n then
    if at_ < s then (0, 0, 0, 0, 0, 0, 62) else if (nx p d).2 = false then (0, 0, 0, 0, 0, 0, 60)
    else if (d = 2 ∨ d = 6) ∧ at_ < u then (0, 0, 0, 0, 0, 0, 61) else (b, c, (nx p d).1, r, s, untilD r d at_ n, 0)
  else (0, 0, 0, 0, 0, 0, 1)

theorem doA_bad {b c p r s u d at_ n : Int} (h : ¬ (IsA b c p r s u ∧ okDeed d at_ n)) : doA b c p r s u d at_ n = (0, 0, 0, 0, 0, 0, 1) := by
  unfold doA; rw [if_neg h]
theorem doA_past {b c p r s u d at_ n : Int} (h : IsA b c p r s u) (hk : okDeed d at_ n) (hs : at_ < s) : doA b c p r s u d at_ n = (0, 0, 0, 0, 0, 0, 62) := by
  unfold doA; rw [if_pos ⟨h, hk⟩, if_pos hs]
theorem doA_phase {b c p r s u d at_ n : Int} (h : IsA b c p r s u) (hk : okDeed d at_ n) (hs : ¬ at_ < s) (hn : (nx p d).2 = false) : doA b c p r s u d at_ n = (0, 0, 0, 0, 0, 0, 60) := by
  unfold doA; rw [if_pos ⟨h, hk⟩, if_neg hs, if_pos hn]
theorem doA_early {b c p r s u d at_ n : Int} (h : IsA b c p r s u) (hk : okDeed d at_ n) (hs : ¬ at_ < s) (hn : (nx p d).2 = true) (hl : (d = 2 ∨ d = 6) ∧ at_ < u) : doA b c p r s u d at_ n = (0, 0, 0, 0, 0, 0, 61) := by
  unfold doA; rw [if_pos ⟨h, hk⟩, if_neg hs, if_neg (by simp [hn]), if_pos hl]
theorem doA_ok {b c p r s u d at_ n : Int} (h : IsA b c p r s u) (hk : okDeed d at_ n) (hs : ¬ at_ < s) (hn : (nx p d).2 = true) (hl : ¬ ((d = 2 ∨ d = 6) ∧ at_ < u)) : doA b c p r s u d at_ n = (b, c, (nx p d).1, r, s, untilD r d at_ n, 0) := by
  unfold doA; rw [if_pos ⟨h, hk⟩, if_neg hs, if_neg (by simp [hn]), if_neg hl]
theorem deed_eq (b c p r s u d at_ n : Int) (h : IsA b c p r s u) (hd : okDeed d at_ n) : alarm_Do.deed b c p r s u d at_ n = some (b, c, (nx p d).1, r, s, untilD r d at_ n) := by
  have hp : 1 ≤ p ∧ p ≤ 4 := by unfold IsA at h; omega
  have hw := wt_bound r
  obtain ⟨ht, h4, ho⟩ := hd
  unfold alarm_Do.deed untilD
  rcases h4 with rfl | rfl | rfl | rfl
  · rw [if_pos rfl, escalated_eq _ _ _ _ _ _ _ _ hp, Int.add_zero, wrap_small (by omega) (by omega)]; rfl
  · rw [if_neg (by omega), if_pos rfl, acked_eq _ _ _ _ _ _ _ _ hp, Int.add_zero, wrap_small (by omega) (by omega)]; rfl
  · rw [if_neg (by omega), if_neg (by omega), if_pos rfl, silenced_eq _ _ _ _ _ _ _ _ hp, wrap_small (by omega) (by omega)]; rfl
  · rw [if_neg (by omega), if_neg (by omega), if_neg (by omega), woken_eq _ _ _ _ _ _ _ _ hp, wrap_small (by omega) (by omega)]; rfl

theorem alarm_Do_eq (b c p r s u d at_ n : Int) : alarm_Do.f b c p r s u d at_ n = some (doA b c p r s u d at_ n) := by
  unfold alarm_Do.f
  rw [alarm_Is_eq, Option.bind_some]
  by_cases h : IsA b c p r s u
  · rw [if_pos (decide_eq_true h), alarm_time_eq, Option.bind_some]
    by_cases ht : 0 ≤ at_ ∧ at_ ≤ 1000000000
    · rw [if_pos (decide_eq_true ht)]
      by_cases hd : d = 2 ∨ d = 3 ∨ d = 4 ∨ d = 6
      · rw [if_pos (by simpa [alarm_Do.known] using hd)]
        by_cases ho : d = 4 ∧ (n < 1 ∨ 1000 < n)
        · rw [if_pos (by simpa [alarm_Do.odd] using ho), doA_bad (fun hq => hq.2.2.2 ho)]
        · have hk : okDeed d at_ n := ⟨ht, hd, ho⟩
          rw [if_neg (by simpa [alarm_Do.odd] using ho)]
          by_cases hs : at_ < s
          · rw [if_pos hs, doA_past h hk hs]
          · rw [if_neg hs, life_Next_eq p d (by unfold IsA at h; omega) hd, Option.bind_some]
            cases hn : (nx p d).2 with
            | false => rw [if_neg (by simp), doA_phase h hk hs hn]
            | true =>
              rw [if_pos rfl]
              by_cases hl : (d = 2 ∨ d = 6) ∧ at_ < u
              · rw [if_pos (by simpa [alarm_Do.late] using hl), doA_early h hk hs hn hl]
              · rw [if_neg (by simpa [alarm_Do.late] using hl), deed_eq b c p r s u d at_ n h hk, doA_ok h hk hs hn hl]; rfl
      · rw [if_neg (by simpa [alarm_Do.known] using hd), doA_bad (fun hq => hd hq.2.2.1)]
    · rw [if_neg (by simpa using ht), doA_bad (fun hq => ht hq.2.1)]
  · rw [if_neg (by simpa using h), doA_bad (fun hq => h hq.1)]

theorem ref_j0_bad (k : Nat) (d at_ n b c p r s u : Int) : watchmanref06_Do.j0 (k + 1) d at_ n true b c p r s u = some (0, 0, 0, 0, 0, 0, 1) := by
  rw [watchmanref06_Do.j0, if_pos rfl]
theorem ref_j0_good (k : Nat) (d at_ n b c p r s u : Int) (h : IsA b c p r s u) (hk : okDeed d at_ n) : watchmanref06_Do.j0 (k + 2) d at_ n false b c p r s u = some (doA b c p r s u d at_ n) := by
  have hp : 1 ≤ p ∧ p ≤ 4 := by unfold IsA at h; omega
  have hw := wt_bound r
  have hd := hk.2.1
  have htn : watchmanref06_turn.f (k + 1) b c p r s u d at_ n = some (b, c, (nx p d).1, r, s, untilD r d at_ n) := by
    rw [turn_eq k b c p r s u d at_ n hp hd]
    unfold untilD
    obtain ⟨ht, h4, ho⟩ := hk
    rcases h4 with rfl | rfl | rfl | rfl
    · rfl
    · rfl
    · rw [if_pos rfl, if_pos rfl, wrap_small (by omega) (by omega)]
    · rw [if_neg (by omega), if_pos rfl, if_neg (by omega), if_pos rfl, wrap_small (by omega) (by omega)]
  rw [watchmanref06_Do.j0, if_neg (by simp)]
  by_cases hs : at_ < s
  · rw [if_pos hs, doA_past h hk hs]
  · rw [if_neg hs, ref05_Next_eq k p d hp hd, Option.bind_some, htn]
    cases hn : (nx p d).2 with
    | false => rw [if_neg (by simp), doA_phase h hk hs hn]
    | true =>
      rw [if_pos rfl]
      by_cases h2 : d = 2
      · rw [if_pos h2]
        by_cases hu : at_ < u
        · rw [if_pos hu, doA_early h hk hs hn ⟨by omega, hu⟩]
        · rw [if_neg hu, doA_ok h hk hs hn (by omega)]; rfl
      · rw [if_neg h2]
        by_cases h6 : d = 6
        · rw [if_pos h6]
          by_cases hu : at_ < u
          · rw [if_pos hu, doA_early h hk hs hn ⟨by omega, hu⟩]
          · rw [if_neg hu, doA_ok h hk hs hn (by omega)]; rfl
        · rw [if_neg h6, doA_ok h hk hs hn (by omega)]; rfl
theorem ref06_Do_eq (k : Nat) (b c p r s u d at_ n : Int) : watchmanref06_Do.f (k + 2) b c p r s u d at_ n = some (doA b c p r s u d at_ n) := by
  unfold watchmanref06_Do.f
  rw [ref06_Is_eq, Option.bind_some]
  by_cases h : IsA b c p r s u
  · rw [if_pos (decide_eq_true h), ref06_time_eq, Option.bind_some]
    by_cases ht : 0 ≤ at_ ∧ at_ ≤ 1000000000
    · rw [if_pos (decide_eq_true ht)]
      have good := fun hk => ref_j0_good k d at_ n b c p r s u h hk
      have bad : ¬ okDeed d at_ n → watchmanref06_Do.j0 (k + 2) d at_ n true b c p r s u = some (doA b c p r s u d at_ n) := fun hk => by
        rw [ref_j0_bad, doA_bad (fun hq => hk hq.2)]
      by_cases h2 : d = 2
      · rw [if_pos h2, if_neg (by omega)]; exact good ⟨ht, by omega, by omega⟩
      · rw [if_neg h2]
        by_cases h3 : d = 3
        · rw [if_pos h3, if_neg (by omega)]; exact good ⟨ht, by omega, by omega⟩
        · rw [if_neg h3]
          by_cases h4 : d = 4
          · rw [if_pos h4]
            by_cases hn : n < 1
            · rw [if_pos hn]; exact bad (fun hk => hk.2.2 ⟨h4, .inl hn⟩)
            · rw [if_neg hn]
              by_cases hm : n > 1000
              · rw [decide_eq_true hm]; exact bad (fun hk => hk.2.2 ⟨h4, .inr hm⟩)
              · rw [decide_eq_false hm]; exact good ⟨ht, by omega, by omega⟩
          · rw [if_neg h4]
            by_cases h6 : d = 6
            · rw [if_pos h6]; exact good ⟨ht, by omega, by omega⟩
            · rw [if_neg h6]; exact bad (fun hk => by have := hk.2.1; omega)
    · rw [if_neg (by simpa using ht), ref_j0_bad, doA_bad (fun hq => ht hq.2.1)]
  · rw [if_neg (by simpa using h), ref_j0_bad, doA_bad (fun hq => h hq.1)]

def openA (b c r at_ : Int) : Int × Int × Int × Int × Int × Int × Int :=
  if (1 ≤ b ∧ b ≤ 99 ∧ 0 ≤ c ∧ c ≤ 7) ∧ (1 ≤ r ∧ r ≤ 3) ∧ (0 ≤ at_ ∧ at_ ≤ 1000000000) then (b, c, 1, r, at_, at_ + wt r, 0) else (0, 0, 0, 0, 0, 0, 1)
theorem alarm_Open_eq (b c r at_ : Int) : alarm_Open.f b c r at_ = some (openA b c r at_) := by
  unfold alarm_Open.f openA
  have hw := wt_bound r
  have hn := wt_ne r
  rw [spot_Is_eq, Option.bind_some]
  by_cases h : 1 ≤ b ∧ b ≤ 99 ∧ 0 ≤ c ∧ c ≤ 7
  · rw [if_pos (decide_eq_true h), alarm_Wait_eq, Option.bind_some]
    by_cases h0 : wt r = 0
    · rw [if_pos h0, if_neg (fun hq => hn.1 h0 hq.2.1)]
    · rw [if_neg h0, alarm_time_eq, Option.bind_some]
      by_cases ht : 0 ≤ at_ ∧ at_ ≤ 1000000000
      · rw [if_pos (decide_eq_true ht), Option.bind_some, if_pos ⟨h, by omega, ht⟩, wrap_small (by omega) (by omega)]
      · rw [if_neg (by simpa using ht), if_neg (fun hq => ht hq.2.2)]
  · rw [if_neg (by simpa using h), if_neg (fun hq => h hq.1)]

end Go.Proofs.Ytlleifklioamlaa.F
