/- What the document's Is and Get of chapter 8 answer, in plain words; the program's do the same. No condition but sizes. -/
import Derived.Test.YtcfpbmdndapeaaaHn
import Derived.Test.YtcfpbmdndapeaaaAr
import Derived.Test.YtcfpbmdndapeaaaF17
import Derived.Test.YtcfpbmdndapeaaaF23
import Derived.Test.YtcfpbmdndapeaaaF29
import Derived.Test.YtcfpbmdndapeaaaF4
import Derived.Test.YtcfpbmdndapeaaaF16
import Derived.Test.YtcfpbmdndapeaaaF22
set_option linter.unusedSimpArgs false
set_option linter.unusedVariables false
namespace Go.Proofs.Ytcfpbmdndapeaaa.F
open Go.RowKit Go.Proofs.YtcfpbmdndapeaaaV.PrintWords Go.Proofs.YtcfpbmdndapeaaaV.PrintLast
/-! ### right ones -/
theorem refless_is (a b : Sp) : watchmanref04_Less.f a.f0 a.f1 b.f0 b.f1 = some (decide (lt a b)) := less_is a b
theorem refA_is (a : Al) : watchmanref06_Is.f a.f0.f0 a.f0.f1 a.f1 a.f2 a.f3 a.f4 = some (decide (isA a)) := ref06_Is_eq _ _ _ _ _ _
theorem refis_l0 (m n : Int) (l : List Al) (hb : l.length < 4611686018427387904) : ∀ (d i : Nat), i + d = l.length →
    ∃ b, Ev (fun k => watchmanref08_Is.l0 k (i : Int) m n l) b ∧ (b = true ↔ ∀ j, i ≤ j → ∀ h : j < l.length, (isA l[j] ∧ l[j].f3 ≤ n) ∧ ∀ h2 : 0 < j, lt l[j - 1].f0 l[j].f0) := by
  intro d
  induction d with
  | zero =>
    intro i hi
    refine ⟨true, ?_, ⟨fun _ j h1 h2 => absurd h2 (by omega), fun _ => rfl⟩⟩
    refine Ev.step (fun k => by rw [watchmanref08_Is.l0]) ?_
    exact ev_neg (by omega) (Ev.now _)
  | succ d ih =>
    intro i hi
    have hi2 : i < l.length := by omega
    obtain ⟨b, h1, h2⟩ := ih (i + 1) (by omega)
    have e : ((i + 1 : Nat) : Int) = wrap64 ((i : Int) + 1) := by rw [wr1 (by omega) (by omega)]; rfl
    rw [e] at h1
    have j2t : Ev (fun k => watchmanref08_Is.j2 k (i : Int) true m n l) false := by
      refine Ev.step (fun k => by rw [watchmanref08_Is.j2]) ?_
      exact ev_pos rfl (Ev.now _)
    have j2f : Ev (fun k => watchmanref08_Is.j2 k (i : Int) false m n l) b := by
      refine Ev.step (fun k => by rw [watchmanref08_Is.j2]) ?_
      exact ev_neg (by decide) h1
    by_cases hA : isA l[i]
    · by_cases hs : l[i].f3 > n
      · refine ⟨false, ?_, ⟨fun h => (by cases h), fun h => by have := (h i (Nat.le_refl _) hi2).1.2; omega⟩⟩
        refine Ev.step (fun k => by rw [watchmanref08_Is.l0]) ?_
        refine ev_pos (by omega) (ev_pos (by omega) ?_)
        rw [rdA l i hi2, refA_is, decide_eq_true hA]
        simp only [Option.bind_some]
        exact ev_pos (by simp) (ev_pos hs j2t)
      · by_cases h0 : i = 0
        · subst h0
          refine ⟨b, ?_, h2.trans ⟨fun h j _ hj => ?_, fun h j hj hj2 => h j (by omega) hj2⟩⟩
          · refine Ev.step (fun k => by rw [watchmanref08_Is.l0]) ?_
            refine ev_pos (by omega) (ev_pos (by omega) ?_)
            rw [rdA l 0 hi2, refA_is, decide_eq_true hA]
            simp only [Option.bind_some]
            exact ev_pos (by simp) (ev_neg hs (ev_neg (by omega) j2f))
          · by_cases hj0 : j = 0
            · subst hj0; exact ⟨⟨hA, by omega⟩, fun h2 => absurd h2 (by omega)⟩
            · exact h j (by omega) hj
        · have ew : wrap64 ((i : Int) - 1) = ((i - 1 : Nat) : Int) := by rw [wrn (by omega) (by omega)]; omega
          by_cases hlt : lt l[i - 1].f0 l[i].f0
          · refine ⟨b, ?_, h2.trans ⟨fun h j hj hj2 => ?_, fun h j hj hj2 => h j (by omega) hj2⟩⟩
            · refine Ev.step (fun k => by rw [watchmanref08_Is.l0]) ?_
              refine ev_pos (by omega) (ev_pos (by omega) ?_)
              rw [rdA l i hi2, refA_is, decide_eq_true hA]
              simp only [Option.bind_some]
              refine ev_pos (by simp) (ev_neg hs (ev_pos (by omega) ?_))
              rw [ew, rdA l (i - 1) (by omega), refless_is, decide_eq_true hlt]
              simp only [Option.bind_some]
              exact ev_pos (by omega) (ev_pos (by omega) j2f)
            · by_cases hji : j = i
              · subst hji; exact ⟨⟨hA, by omega⟩, fun _ => hlt⟩
              · exact h j (by omega) hj2
          · refine ⟨false, ?_, ⟨fun h => (by cases h), fun h => absurd ((h i (Nat.le_refl _) hi2).2 (by omega)) hlt⟩⟩
            refine Ev.step (fun k => by rw [watchmanref08_Is.l0]) ?_
            refine ev_pos (by omega) (ev_pos (by omega) ?_)
            rw [rdA l i hi2, refA_is, decide_eq_true hA]
            simp only [Option.bind_some]
            refine ev_pos (by simp) (ev_neg hs (ev_pos (by omega) ?_))
            rw [ew, rdA l (i - 1) (by omega), refless_is, decide_eq_false hlt]
            simp only [Option.bind_some]
            exact ev_pos (by omega) (ev_pos (by omega) j2t)
    · refine ⟨false, ?_, ⟨fun h => (by cases h), fun h => absurd (h i (Nat.le_refl _) hi2).1.1 hA⟩⟩
      refine Ev.step (fun k => by rw [watchmanref08_Is.l0]) ?_
      refine ev_pos (by omega) (ev_pos (by omega) ?_)
      rw [rdA l i hi2, refA_is, decide_eq_false hA]
      simp only [Option.bind_some]
      exact ev_neg (by decide) j2t
theorem refis_ev (m n : Int) (l : List Al) (hb : l.length < 4611686018427387904) : ∃ b, Ev (fun k => watchmanref08_Is.f k m n l) b ∧ (b = true ↔ IsB m n l) := by
  have bad : Ev (fun k => watchmanref08_Is.j0 k true m n l) false := by
    refine Ev.step (fun k => by rw [watchmanref08_Is.j0]) ?_
    exact ev_pos rfl (Ev.now _)
  unfold watchmanref08_Is.f
  by_cases c1 : m < 1
  · exact ⟨false, ev_pos c1 bad, ⟨fun h => (by cases h), fun h => by have := h.1; omega⟩⟩
  by_cases c2 : m > 200
  · exact ⟨false, ev_neg c1 (ev_pos c2 bad), ⟨fun h => (by cases h), fun h => by have := h.2.1; omega⟩⟩
  by_cases c3 : n < 0
  · exact ⟨false, ev_neg c1 (ev_neg c2 (ev_pos c3 bad)), ⟨fun h => (by cases h), fun h => by have := h.2.2.1; omega⟩⟩
  by_cases c4 : n > 1000000000
  · exact ⟨false, ev_neg c1 (ev_neg c2 (ev_neg c3 (ev_pos c4 bad))), ⟨fun h => (by cases h), fun h => by have := h.2.2.2.1; omega⟩⟩
  by_cases c5 : (l.length : Int) > m
  · exact ⟨false, ev_neg c1 (ev_neg c2 (ev_neg c3 (ev_neg c4 (by rw [decide_eq_true c5]; exact bad)))), ⟨fun h => (by cases h), fun h => by have := h.2.2.2.2.1; omega⟩⟩
  obtain ⟨b, h1, h2⟩ := refis_l0 m n l hb l.length 0 (by omega)
  refine ⟨b, ev_neg c1 (ev_neg c2 (ev_neg c3 (ev_neg c4 ?_))), h2.trans ⟨fun h => ⟨by omega, by omega, by omega, by omega, by omega, fun a ha => ?_, adj_asc l (fun j hj => ?_)⟩, fun h j _ hj => ⟨h.2.2.2.2.2.1 _ (List.getElem_mem hj), fun h0 => asc_ne h.2.2.2.2.2.2 (j - 1) j (by omega) hj (by omega)⟩⟩⟩
  · rw [decide_eq_false c5]
    refine Ev.step (fun k => by rw [watchmanref08_Is.j0]) ?_
    exact ev_neg (by decide) h1
  · obtain ⟨j, hj, rfl⟩ := List.mem_iff_getElem.1 ha
    exact (h j (by omega) hj).1
  · exact (h (j + 1) (by omega) hj).2 (by omega)
theorem is_both (m n : Int) (l : List Al) (hb : l.length < 4611686018427387904) : ∃ b, Ev (fun k => board_Is.f k m n l) b ∧ Ev (fun k => watchmanref08_Is.f k m n l) b ∧ (b = true ↔ IsB m n l) := by
  obtain ⟨b, h1, h2⟩ := isB_ev m n l hb
  obtain ⟨b', h3, h4⟩ := refis_ev m n l hb
  have e : b' = b := Bool.eq_iff_iff.2 (h4.trans h2.symm)
  subst e
  exact ⟨b', h1, h3, h2⟩
/-! ### what is got -/
def spP (s0 s1 : Int) (x : Al) : Bool := decide (x.f0.f0 = s0) && decide (x.f0.f1 = s1)
def getR (l : List Al) (s0 s1 : Int) : Int × Int × Int × Int × Int × Int × Bool :=
  match l.find? (spP s0 s1) with
  | none => (0, 0, 0, 0, 0, 0, false)
  | some x => (x.f0.f0, x.f0.f1, x.f1, x.f2, x.f3, x.f4, true)
theorem get_is (m n : Int) (l : List Al) (s0 s1 : Int) : board_Get.f m n l s0 s1 = some (getR l s0 s1) := by
  have hu : board_Get.f m n l s0 s1 = if ix_Alarm (spP s0 s1) l < 0 then some (0, 0, 0, 0, 0, 0, false) else some ((rd_T28 l (ix_Alarm (spP s0 s1) l)).f0.f0, (rd_T28 l (ix_Alarm (spP s0 s1) l)).f0.f1, (rd_T28 l (ix_Alarm (spP s0 s1) l)).f1, (rd_T28 l (ix_Alarm (spP s0 s1) l)).f2, (rd_T28 l (ix_Alarm (spP s0 s1) l)).f3, (rd_T28 l (ix_Alarm (spP s0 s1) l)).f4, true) := rfl
  rw [hu]
  unfold getR
  cases e : l.findIdx? (spP s0 s1) with
  | none =>
    have hix : ix_Alarm (spP s0 s1) l = -1 := by unfold ix_Alarm; rw [e]
    rw [List.findIdx?_eq_none_iff] at e
    rw [hix, if_pos (by decide), List.find?_eq_none.2 (fun x hx => by rw [e x hx]; decide)]
  | some i =>
    have hix : ix_Alarm (spP s0 s1) l = (i : Int) := by unfold ix_Alarm; rw [e]
    rw [List.findIdx?_eq_some_iff_getElem] at e
    obtain ⟨hi, h1, h2⟩ := e
    have h3 : l.find? (spP s0 s1) = some l[i] := by
      rw [List.find?_eq_some_iff_getElem]
      exact ⟨h1, i, hi, rfl, fun j hj => by simpa using h2 j hj⟩
    rw [hix, if_neg (by omega), h3, rdA l i hi]
theorem refget_l0 (m n : Int) (l : List Al) (s0 s1 : Int) (hb : l.length < 4611686018427387904) : ∀ (d i : Nat), i + d = l.length → Ev (fun k => watchmanref08_Get.l0 k (i : Int) m n l s0 s1) (getR (l.drop i) s0 s1) := by
  intro d
  induction d with
  | zero =>
    intro i hi
    refine Ev.step (fun k => by rw [watchmanref08_Get.l0]) ?_
    refine ev_neg (by omega) ?_
    rw [List.drop_eq_nil_of_le (by omega)]
    exact Ev.now _
  | succ d ih =>
    intro i hi
    have hi2 : i < l.length := by omega
    have h1 := ih (i + 1) (by omega)
    have e : ((i + 1 : Nat) : Int) = wrap64 ((i : Int) + 1) := by rw [wr1 (by omega) (by omega)]; rfl
    rw [e] at h1
    refine Ev.step (fun k => by rw [watchmanref08_Get.l0]) ?_
    refine ev_pos (by omega) (ev_pos (by omega) ?_)
    rw [rdA l i hi2, List.drop_eq_getElem_cons hi2]
    by_cases hc : spP s0 s1 l[i] = true
    · have : getR (l[i] :: l.drop (i + 1)) s0 s1 = (l[i].f0.f0, l[i].f0.f1, l[i].f1, l[i].f2, l[i].f3, l[i].f4, true) := by unfold getR; rw [List.find?_cons_of_pos hc]
      rw [this]
      refine ev_pos ?_ (Ev.now _)
      simpa [spP] using hc
    · have : getR (l[i] :: l.drop (i + 1)) s0 s1 = getR (l.drop (i + 1)) s0 s1 := by unfold getR; rw [List.find?_cons_of_neg hc]
      rw [this]
      refine ev_neg ?_ h1
      intro h; exact hc (by simpa [spP] using h)
theorem refget_ev (m n : Int) (l : List Al) (s0 s1 : Int) (hb : l.length < 4611686018427387904) : Ev (fun k => watchmanref08_Get.f k m n l s0 s1) (getR l s0 s1) := refget_l0 m n l s0 s1 hb l.length 0 (by omega)
/-! ### the same boards -/
theorem bsame_l0 (l : List Al) (hb : l.length < 4611686018427387904) : ∀ (d i : Nat), i + d = l.length → Ev (fun k => watchmanref07_Same.l0 k l l (i : Int)) true := by
  intro d
  induction d with
  | zero =>
    intro i hi
    refine Ev.step (fun k => by rw [watchmanref07_Same.l0]) ?_
    exact ev_neg (by omega) (Ev.now _)
  | succ d ih =>
    intro i hi
    have h1 := ih (i + 1) (by omega)
    have e : ((i + 1 : Nat) : Int) = wrap64 ((i : Int) + 1) := by rw [wr1 (by omega) (by omega)]; rfl
    rw [e] at h1
    refine Ev.step (fun k => by rw [watchmanref07_Same.l0]) ?_
    refine ev_pos (by omega) (ev_pos (by omega) (ev_pos (by omega) (ev_neg (by simp) h1)))
theorem bsame_ev (m n : Int) (l : List Al) (hb : l.length < 4611686018427387904) : Ev (fun k => watchmanref08_Same.f k m n l m n l) true := by
  unfold watchmanref08_Same.f
  refine ev_pos rfl (ev_pos rfl (Ev.bind (a := true) ?_ (Ev.now _)))
  unfold watchmanref07_Same.f
  exact ev_pos rfl (bsame_l0 l hb l.length 0 (by omega))
theorem bown_is (m n : Int) (l : List Al) (hl : l.length < 1000000) : watchmanref08_Own.f m n l = some (m, n, l) := by
  unfold watchmanref08_Own.f watchmanref07_Own.f
  rw [if_pos (by simp; omega), List.nil_append]
  rfl
end Go.Proofs.Ytcfpbmdndapeaaa.F
