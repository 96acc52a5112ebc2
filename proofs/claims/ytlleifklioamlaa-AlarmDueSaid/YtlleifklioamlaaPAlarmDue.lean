/- The pure statement of AlarmDue: behind a Pass nothing is due. -/
import Derived.Test.YtlleifklioamlaaB
import Derived.Test.YtlleifklioamlaaRung
import Derived.Test.YtlleifklioamlaaQAlarmDue
namespace Go.Proofs.Ytlleifklioamlaa.F
open Go.RowKit Go.Proofs.YtlleifklioamlaaW.PrintWords Go.Proofs.YtlleifklioamlaaW.PrintLast
theorem mn_is (x y : Int) : mn x y = if y < x then y else x := by unfold mn; omega
theorem mx_is (x y : Int) : mx x y = if x < y then y else x := by unfold mx; omega
def duePh (b c p r s u at_ : Int) : Int := (passA b c p r s u at_).2.2.1
def dueUn (b c p r s u at_ : Int) : Int := (passA b c p r s u at_).2.2.2.2.2
theorem due_parts (b c p r s u at_ : Int) : passA b c p r s u at_ = (b, c, duePh b c p r s u at_, r, s, dueUn b c p r s u at_) := by
  unfold duePh dueUn passA
  split
  · split
    · split <;> rfl
    · split <;> rfl
  · rfl
theorem due_none {b c p r s u at_ : Int} (h : IsA b c p r s u) : (duePh b c p r s u at_ = 1 ∨ duePh b c p r s u at_ = 4) → at_ < dueUn b c p r s u at_ := by
  unfold duePh dueUn passA
  have hw := wt_bound r
  rw [if_pos h]
  split
  · split <;> simp only <;> omega
  · split <;> simp only <;> omega
theorem doA_late (b c p r s u d at_ : Int) (hd : d = 2 ∨ d = 6) (h : (p = 1 ∨ p = 4) → at_ < u) : (doA b c p r s u d at_ 0).2.2.2.2.2.2 ≠ 0 := by
  by_cases hk : IsA b c p r s u ∧ okDeed d at_ 0
  · by_cases hs : at_ < s
    · rw [doA_past hk.1 hk.2 hs]; simp
    · cases hn : (nx p d).2 with
      | false => rw [doA_phase hk.1 hk.2 hs hn]; simp
      | true =>
        have hp : p = 1 ∨ p = 4 := by
          unfold nx at hn
          rcases hd with rfl | rfl
          · by_cases h1 : p = 1
            · exact .inl h1
            · rw [if_pos rfl, if_neg h1] at hn; simp at hn
          · by_cases h1 : p = 4
            · exact .inr h1
            · rw [if_neg (by omega), if_neg (by omega), if_neg (by omega), if_neg h1] at hn; simp at hn
        rw [doA_early hk.1 hk.2 hs hn ⟨hd, h hp⟩]; simp
  · rw [doA_bad hk]; simp
theorem AlarmDue_pure : watchmanlaw06_AlarmDue.Pure := by
  intro b c p r s u at_ _ _ _ _ _ _ _
  refine ⟨9, ?_⟩
  unfold watchmanlaw06_AlarmDue.f
  rw [alarm_Pass_eq 5, Option.bind_some, alarm_Is_eq, Option.bind_some]
  by_cases hA : IsA b c p r s u
  · rw [if_pos (decide_eq_true hA), due_parts, watchmanlaw06_AlarmDue.j0]
    by_cases h0 : at_ < 0
    · rw [if_pos (decide_eq_true h0), rung_true 4, Option.bind_some, if_pos rfl, alarm_Is_eq, Option.bind_some, if_pos (decide_eq_true hA)]
    · rw [if_neg (by simpa using h0)]
      have hdue := due_none (at_ := at_) hA
      have ht : mn (mx at_ 0) 1000000000 ≤ at_ := by
        have e1 := mx_is at_ 0
        have e2 := mn_is (mx at_ 0) 1000000000
        split at e1 <;> split at e2 <;> omega
      generalize hP : duePh b c p r s u at_ = P at hdue ⊢
      generalize hU : dueUn b c p r s u at_ = U at hdue ⊢
      generalize mn (mx at_ 0) 1000000000 = t at ht ⊢
      have e1 := doA_late b c P r s U 2 t (.inl rfl) (fun h => by have := hdue h; omega)
      have e2 := doA_late b c P r s U 6 t (.inr rfl) (fun h => by have := hdue h; omega)
      show (alarm_Do.f b c P r s U 2 t 0).bind _ = _
      rw [alarm_Do_eq, Option.bind_some]
      show (alarm_Do.f b c P r s U 6 t 0).bind _ = _
      rw [alarm_Do_eq, Option.bind_some, rung_true 4, Option.bind_some, if_pos rfl]
      generalize doA b c P r s U 2 t 0 = D at e1 ⊢
      generalize doA b c P r s U 6 t 0 = E at e2 ⊢
      have e3 : (E.2.2.2.2.2.2 != 0) = true := bne_iff_ne.mpr e2
      show (if P = 1 then if U > at_ then if D.2.2.2.2.2.2 = 0 then none else some (E.2.2.2.2.2.2 != 0) else none else if P = 4 then if U > at_ then if D.2.2.2.2.2.2 = 0 then none else some (E.2.2.2.2.2.2 != 0) else none else if D.2.2.2.2.2.2 = 0 then none else some (E.2.2.2.2.2.2 != 0)) = some true
      rw [e3]
      by_cases h1 : P = 1
      · rw [if_pos h1, if_pos (hdue (.inl h1)), if_neg e1]
      · rw [if_neg h1]
        by_cases h4 : P = 4
        · rw [if_pos h4, if_pos (hdue (.inr h4)), if_neg e1]
        · rw [if_neg h4, if_neg e1]
  · rw [if_neg (by simpa using hA), watchmanlaw06_AlarmDue.j0, if_pos rfl, rung_true 4, Option.bind_some, if_pos rfl, alarm_Is_eq, Option.bind_some, if_neg (by simpa using hA)]
    unfold passA
    rw [if_neg hA]
    simp
end Go.Proofs.Ytlleifklioamlaa.F
