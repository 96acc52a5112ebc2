/- The pure statement of BoardDoes: what the program's functions of chapter 8 answer is what the document's answer; all of them answer. -/
import Derived.Test.YtcfpbmdndapeaaaHd
import Derived.Test.YtcfpbmdndapeaaaAr
import Derived.Test.YtcfpbmdndapeaaaF9
import Derived.Test.YtcfpbmdndapeaaaF10
import Derived.Test.YtcfpbmdndapeaaaF11
import Derived.Test.YtcfpbmdndapeaaaF12
import Derived.Test.YtcfpbmdndapeaaaF17
import Derived.Test.YtcfpbmdndapeaaaF20
import Derived.Test.YtcfpbmdndapeaaaF18
import Derived.Test.YtcfpbmdndapeaaaF3
import Derived.Test.YtcfpbmdndapeaaaF19
import Derived.Test.YtcfpbmdndapeaaaF8
import Derived.Test.YtcfpbmdndapeaaaQBoardDoes
set_option linter.unusedSimpArgs false
set_option linter.unusedVariables false
namespace Go.Proofs.Ytcfpbmdndapeaaa.F
open Go.RowKit Go.Proofs.YtcfpbmdndapeaaaV.PrintWords Go.Proofs.YtcfpbmdndapeaaaV.PrintLast
/-! ### right ones -/
theorem refless_is (a b : Sp) : watchmanref04_Less.f a.f0 a.f1 b.f0 b.f1 = some (decide (lt a b)) := less_is a b
theorem refA_is (a : Al) : watchmanref06_Is.f a.f0.f0 a.f0.f1 a.f1 a.f2 a.f3 a.f4 = some (decide (isA a)) := ref06_Is_eq _ _ _ _ _ _
theorem refis_l0 (m n : Int) (l : List Al) (hb : l.length < 4611686018427387904) : ∀ (d i : Nat), i + d = l.length →
    ∃ b, Ev (fun k => watchmanref08_Is.l0 k (i : Int) m n l) b ∧ (b = true ↔ ∀ j, i ≤ j → ∀ h : j < l.length, (isA l[j] ∧ l[j].f3 ≤ n) ∧ ∀ h2 : 0 < j, lt l[j - 1].f0 l[j].f0) := by
  intro d
  induction d with
  | zero =>
    intro i hi
    refine ⟨true, ?_, ⟨fun _ j h1 h2 => absurd h2 (by omega), fun _ => rfl⟩⟩
    refine Ev.step (fun k => by rw [watchmanref08_Is.l0]) ?_
    exact ev_neg (by omega) (Ev.now _)
  | succ d ih =>
    intro i hi
    have hi2 : i < l.length := by omega
    obtain ⟨b, h1, h2⟩ := ih (i + 1) (by omega)
    have e : ((i + 1 : Nat) : Int) = wrap64 ((i : Int) + 1) := by rw [wr1 (by omega) (by omega)]; rfl
    rw [e] at h1
    have j2t : Ev (fun k => watchmanref08_Is.j2 k (i : Int) true m n l) false := by
      refine Ev.step (fun k => by rw [watchmanref08_Is.j2]) ?_
      exact ev_pos rfl (Ev.now _)
    have j2f : Ev (fun k => watchmanref08_Is.j2 k (i : Int) false m n l) b := by
      refine Ev.step (fun k => by rw [watchmanref08_Is.j2]) ?_
      exact ev_neg (by decide) h1
    by_cases hA : isA l[i]
    · by_cases hs : l[i].f3 > n
      · refine ⟨false, ?_, ⟨fun h => (by cases h), fun h => by have := (h i (Nat.le_refl _) hi2).1.2; omega⟩⟩
        refine Ev.step (fun k => by rw [watchmanref08_Is.l0]) ?_
        refine ev_pos (by omega) (ev_pos (by omega) ?_)
        rw [rdA l i hi2, refA_is, decide_eq_true hA]
        simp only [Option.bind_some]
        exact ev_pos (by simp) (ev_pos hs j2t)
      · by_cases h0 : i = 0
        · subst h0
          refine ⟨b, ?_, h2.trans ⟨fun h j _ hj => ?_, fun h j hj hj2 => h j (by omega) hj2⟩⟩
          · refine Ev.step (fun k => by rw [watchmanref08_Is.l0]) ?_
            refine ev_pos (by omega) (ev_pos (by omega) ?_)
            rw [rdA l 0 hi2, refA_is, decide_eq_true hA]
            simp only [Option.bind_some]
            exact ev_pos (by simp) (ev_neg hs (ev_neg (by omega) j2f))
          · by_cases hj0 : j = 0
            · subst hj0; exact ⟨⟨hA, by omega⟩, fun h2 => absurd h2 (by omega)⟩
            · exact h j (by omega) hj
        · have ew : wrap64 ((i : Int) - 1) = ((i - 1 : Nat) : Int) := by rw [wrn (by omega) (by omega)]; omega
          by_cases hlt : lt l[i - 1].f0 l[i].f0
          · refine ⟨b, ?_, h2.trans ⟨fun h j hj hj2 => ?_, fun h j hj hj2 => h j (by omega) hj2⟩⟩
            · refine Ev.step (fun k => by rw [watchmanref08_Is.l0]) ?_
              refine ev_pos (by omega) (ev_pos (by omega) ?_)
              rw [rdA l i hi2, refA_is, decide_eq_true hA]
              simp only [Option.bind_some]
              refine ev_pos (by simp) (ev_neg hs (ev_pos (by omega) ?_))
              rw [ew, rdA l (i - 1) (by omega), refless_is, decide_eq_true hlt]
              simp only [Option.bind_some]
              exact ev_pos (by omega) (ev_pos (by omega) j2f)
            · by_cases hji : j = i
              · subst hji; exact ⟨⟨hA, by omega⟩, fun _ => hlt⟩
              · exact h j (by omega) hj2
          · refine ⟨false, ?_, ⟨fun h => (by cases h), fun h => absurd ((h i (Nat.le_refl _) hi2).2 (by omega)) hlt⟩⟩
            refine Ev.step (fun k => by rw [watchmanref08_Is.l0]) ?_
            refine ev_pos (by omega) (ev_pos (by omega) ?_)
            rw [rdA l i hi2, refA_is, decide_eq_true hA]
            simp only [Option.bind_some]
            refine ev_pos (by simp) (ev_neg hs (ev_pos (by omega) ?_))
            rw [ew, rdA l (i - 1) (by omega), refless_is, decide_eq_false hlt]
            simp only [Option.bind_some]
            exact ev_pos (by omega) (ev_pos (by omega) j2t)
    · refine ⟨false, ?_, ⟨fun h => (by cases h), fun h => absurd (h i (Nat.le_refl _) hi2).1.1 hA⟩⟩
      refine Ev.step (fun k => by rw [watchmanref08_Is.l0]) ?_
      refine ev_pos (by omega) (ev_pos (by omega) ?_)
      rw [rdA l i hi2, refA_is, decide_eq_false hA]
      simp only [Option.bind_some]
      exact ev_neg (by decide) j2t
theorem refis_ev (m n : Int) (l : List Al) (hb : l.length < 4611686018427387904) : ∃ b, Ev (fun k => watchmanref08_Is.f k m n l) b ∧ (b = true ↔ IsB m n l) := by
  have bad : Ev (fun k => watchmanref08_Is.j0 k true m n l) false := by
    refine Ev.step (fun k => by rw [watchmanref08_Is.j0]) ?_
    exact ev_pos rfl (Ev.now _)
  unfold watchmanref08_Is.f
  by_cases c1 : m < 1
  · exact ⟨false, ev_pos c1 bad, ⟨fun h => (by cases h), fun h => by have := h.1; omega⟩⟩
  by_cases c2 : m > 200
  · exact ⟨false, ev_neg c1 (ev_pos c2 bad), ⟨fun h => (by cases h), fun h => by have := h.2.1; omega⟩⟩
  by_cases c3 : n < 0
  · exact ⟨false, ev_neg c1 (ev_neg c2 (ev_pos c3 bad)), ⟨fun h => (by cases h), fun h => by have := h.2.2.1; omega⟩⟩
  by_cases c4 : n > 1000000000
  · exact ⟨false, ev_neg c1 (ev_neg c2 (ev_neg c3 (ev_pos c4 bad))), ⟨fun h => (by cases h), fun h => by have := h.2.2.2.1; omega⟩⟩
  by_cases c5 : (l.length : Int) > m
  · exact ⟨false, ev_neg c1 (ev_neg c2 (ev_neg c3 (ev_neg c4 (by rw [decide_eq_true c5]; exact bad)))), ⟨fun h => (by cases h), fun h => by have := h.2.2.2.2.1; omega⟩⟩
  obtain ⟨b, h1, h2⟩ := refis_l0 m n l hb l.length 0 (by omega)
  refine ⟨b, ev_neg c1 (ev_neg c2 (ev_neg c3 (ev_neg c4 ?_))), h2.trans ⟨fun h => ⟨by omega, by omega, by omega, by omega, by omega, fun a ha => ?_, adj_asc l (fun j hj => ?_)⟩, fun h j _ hj => ⟨h.2.2.2.2.2.1 _ (List.getElem_mem hj), fun h0 => asc_ne h.2.2.2.2.2.2 (j - 1) j (by omega) hj (by omega)⟩⟩⟩
  · rw [decide_eq_false c5]
    refine Ev.step (fun k => by rw [watchmanref08_Is.j0]) ?_
    exact ev_neg (by decide) h1
  · obtain ⟨j, hj, rfl⟩ := List.mem_iff_getElem.1 ha
    exact (h j (by omega) hj).1
  · exact (h (j + 1) (by omega) hj).2 (by omega)
theorem is_both (m n : Int) (l : List Al) (hb : l.length < 4611686018427387904) : ∃ b, Ev (fun k => board_Is.f k m n l) b ∧ Ev (fun k => watchmanref08_Is.f k m n l) b ∧ (b = true ↔ IsB m n l) := by
  obtain ⟨b, h1, h2⟩ := isB_ev m n l hb
  obtain ⟨b', h3, h4⟩ := refis_ev m n l hb
  have e : b' = b := Bool.eq_iff_iff.2 (h4.trans h2.symm)
  subst e
  exact ⟨b', h1, h3, h2⟩
/-! ### what is got -/
def spP (s0 s1 : Int) (x : Al) : Bool := decide (x.f0.f0 = s0) && decide (x.f0.f1 = s1)
def getR (l : List Al) (s0 s1 : Int) : Int × Int × Int × Int × Int × Int × Bool :=
  match l.find? (spP s0 s1) with
  | none => (0, 0, 0, 0, 0, 0, false)
  | some x => (x.f0.f0, x.f0.f1, x.f1, x.f2, x.f3, x.f4, true)
theorem get_is (m n : Int) (l : List Al) (s0 s1 : Int) : board_Get.f m n l s0 s1 = some (getR l s0 s1) := by
  have hu : board_Get.f m n l s0 s1 = if ix_Alarm (spP s0 s1) l < 0 then some (0, 0, 0, 0, 0, 0, false) else some ((rd_T28 l (ix_Alarm (spP s0 s1) l)).f0.f0, (rd_T28 l (ix_Alarm (spP s0 s1) l)).f0.f1, (rd_T28 l (ix_Alarm (spP s0 s1) l)).f1, (rd_T28 l (ix_Alarm (spP s0 s1) l)).f2, (rd_T28 l (ix_Alarm (spP s0 s1) l)).f3, (rd_T28 l (ix_Alarm (spP s0 s1) l)).f4, true) := rfl
  rw [hu]
  unfold getR
  cases e : l.findIdx? (spP s0 s1) with
  | none =>
    have hix : ix_Alarm (spP s0 s1) l = -1 := by unfold ix_Alarm; rw [e]
    rw [List.findIdx?_eq_none_iff] at e
    rw [hix, if_pos (by decide), List.find?_eq_none.2 (fun x hx => by rw [e x hx]; decide)]
  | some i =>
    have hix : ix_Alarm (spP s0 s1) l = (i : Int) := by unfold ix_Alarm; rw [e]
    rw [List.findIdx?_eq_some_iff_getElem] at e
    obtain ⟨hi, h1, h2⟩ := e
    have h3 : l.find? (spP s0 s1) = some l[i] := by
      rw [List.find?_eq_some_iff_getElem]
      exact ⟨h1, i, hi, rfl, fun j hj => by simpa using h2 j hj⟩
    rw [hix, if_neg (by omega), h3, rdA l i hi]
theorem refget_l0 (m n : Int) (l : List Al) (s0 s1 : Int) (hb : l.length < 4611686018427387904) : ∀ (d i : Nat), i + d = l.length → Ev (fun k => watchmanref08_Get.l0 k (i : Int) m n l s0 s1) (getR (l.drop i) s0 s1) := by
  intro d
  induction d with
  | zero =>
    intro i hi
    refine Ev.step (fun k => by rw [watchmanref08_Get.l0]) ?_
    refine ev_neg (by omega) ?_
    rw [List.drop_eq_nil_of_le (by omega)]
    exact Ev.now _
  | succ d ih =>
    intro i hi
    have hi2 : i < l.length := by omega
    have h1 := ih (i + 1) (by omega)
    have e : ((i + 1 : Nat) : Int) = wrap64 ((i : Int) + 1) := by rw [wr1 (by omega) (by omega)]; rfl
    rw [e] at h1
    refine Ev.step (fun k => by rw [watchmanref08_Get.l0]) ?_
    refine ev_pos (by omega) (ev_pos (by omega) ?_)
    rw [rdA l i hi2, List.drop_eq_getElem_cons hi2]
    by_cases hc : spP s0 s1 l[i] = true
    · have : getR (l[i] :: l.drop (i + 1)) s0 s1 = (l[i].f0.f0, l[i].f0.f1, l[i].f1, l[i].f2, l[i].f3, l[i].f4, true) := by unfold getR; rw [List.find?_cons_of_pos hc]
      rw [this]
      refine ev_pos ?_ (Ev.now _)
      simpa [spP] using hc
    · have : getR (l[i] :: l.drop (i + 1)) s0 s1 = getR (l.drop (i + 1)) s0 s1 := by unfold getR; rw [List.find?_cons_of_neg hc]
      rw [this]
      refine ev_neg ?_ h1
      intro h; exact hc (by simpa [spP] using h)
theorem refget_ev (m n : Int) (l : List Al) (s0 s1 : Int) (hb : l.length < 4611686018427387904) : Ev (fun k => watchmanref08_Get.f k m n l s0 s1) (getR l s0 s1) := refget_l0 m n l s0 s1 hb l.length 0 (by omega)
theorem getR_there (l : List Al) (s : Sp) : (getR l s.f0 s.f1).2.2.2.2.2.2 = true ↔ ∃ x ∈ l, x.f0 = s := by
  unfold getR
  cases e : l.find? (spP s.f0 s.f1) with
  | none =>
    rw [List.find?_eq_none] at e
    refine ⟨fun h => (by cases h), fun ⟨x, hx, h⟩ => absurd (show spP s.f0 s.f1 x = true by unfold spP; rw [h]; simp) (e x hx)⟩
  | some y =>
    refine ⟨fun _ => ⟨y, List.mem_of_find?_eq_some e, ?_⟩, fun _ => rfl⟩
    have := List.find?_some e
    unfold spP at this
    rw [Bool.and_eq_true, decide_eq_true_iff, decide_eq_true_iff] at this
    exact sp_ext this.1 this.2
/-! ### what is put -/
theorem lt_dec (s : Sp) (x : Al) : watchmanref08_Put.lt s.f0 s.f1 x = decide (lt x.f0 s) := by
  rw [Bool.eq_iff_iff]
  refine Iff.trans (b := lt x.f0 s) ?_ ⟨fun h => decide_eq_true h, fun h => of_decide_eq_true h⟩
  unfold watchmanref08_Put.lt lt
  simp
theorem at_is {l : List Al} {s : Sp} {q : Nat} {t : Bool} (h : At l s q t) : watchmanref08_Put.at' s.f0 s.f1 l = q := by
  unfold watchmanref08_Put.at'
  refine watchmanref08_Put.at_ _ l q h.1 (fun x hx => ?_) (fun h2 => ?_)
  · obtain ⟨j, hj, rfl⟩ := List.mem_iff_getElem.1 hx
    rw [List.length_take] at hj
    rw [List.getElem_take, lt_dec]
    exact decide_eq_true (h.2.1 j (by omega) (by omega))
  · rw [lt_dec]
    exact decide_eq_false (h.2.2.1 h2)
theorem put_both (m n : Int) (l : List Al) (hb : l.length ≤ 60) (a : Al) : ∃ r, Ev (fun k => board_Put.f k m n l a.f0.f0 a.f0.f1 a.f1 a.f2 a.f3 a.f4) r ∧ Ev (fun k => watchmanref08_Put.f k m n l a.f0.f0 a.f0.f1 a.f1 a.f2 a.f3 a.f4) r ∧ r.2.2.1.length ≤ 61 := by
  obtain ⟨b, h1, h1', h2⟩ := is_both m n l (by omega)
  have bad : Ev (fun k => board_Put.j0 k true m n l a.f0.f0 a.f0.f1 a.f1 a.f2 a.f3 a.f4) (0, 0, [], 1) := by
    refine Ev.step (fun k => by rw [board_Put.j0]) ?_
    exact ev_pos rfl (Ev.now _)
  unfold board_Put.f watchmanref08_Put.f
  cases b with
  | false => exact ⟨_, Ev.bind h1 (ev_neg (by decide) bad), Ev.bind h1' (ev_neg (by decide) (Ev.now _)), by simp⟩
  | true =>
    have hw := h2.1 rfl
    have hasc := hw.2.2.2.2.2.2
    by_cases hA : isA a
    · by_cases hs : a.f3 > n
      · refine ⟨(0, 0, [], 1), Ev.bind h1 (ev_pos rfl ?_), Ev.bind h1' (ev_pos rfl ?_), by simp⟩
        · rw [alarm_Is_eq]
          simp only [Option.bind_some]
          refine ev_pos (decide_eq_true hA) ?_
          rw [decide_eq_true hs]
          exact bad
        · rw [refA_is]
          simp only [Option.bind_some]
          exact ev_pos (decide_eq_true hA) (ev_pos hs (Ev.now _))
      · have head : ∀ r, Ev (fun k => board_Put.j0 k false m n l a.f0.f0 a.f0.f1 a.f1 a.f2 a.f3 a.f4) r → Ev (fun k => (alarm_Is.f a.f0.f0 a.f0.f1 a.f1 a.f2 a.f3 a.f4).bind fun t162 => (if t162 = true then (board_Put.j0 k (decide (a.f3 > n)) m n l a.f0.f0 a.f0.f1 a.f1 a.f2 a.f3 a.f4) else (board_Put.j0 k true m n l a.f0.f0 a.f0.f1 a.f1 a.f2 a.f3 a.f4))) r := by
          intro r hr
          rw [alarm_Is_eq]
          simp only [Option.bind_some]
          refine ev_pos (decide_eq_true hA) ?_
          rw [decide_eq_false hs]
          exact hr
        obtain ⟨q, t, f1, f2⟩ := find_ev l a.f0 (by omega)
        have hth := f2.there hasc
        have hq := f2.1
        have hat := at_is f2
        have hg := getR_there l a.f0
        have rg := refget_ev m n l a.f0.f0 a.f0.f1 (by omega)
        cases t with
        | true =>
          have hq2 : q < l.length := (f2.2.2.2.1 rfl).1
          refine ⟨(m, n, putL l a q true, 0), Ev.bind h1 (ev_pos rfl (head _ ?_)), Ev.bind h1' (ev_pos rfl ?_), by show (putL l a q true).length ≤ 61; rw [put_len f2]; simp; omega⟩
          · refine Ev.step (fun k => by rw [board_Put.j0]) ?_
            refine ev_neg (by decide) ?_
            unfold board_open.f
            simp only [Option.bind_some]
            refine Ev.bind f1 (ev_pos rfl ?_)
            have hwi := with_ev l [a] q 1 (by omega) (by simp) (by omega)
            refine Ev.bind (a := putL l a q true) ?_ (Ev.now _)
            unfold putL
            rw [show l.take q ++ a :: l.drop (q + if true = true then 1 else 0) = l.take q ++ [a] ++ l.drop (q + 1) by simp]
            exact hwi
          · rw [refA_is]
            simp only [Option.bind_some]
            refine ev_pos (decide_eq_true hA) (ev_neg hs (Ev.bind rg (ev_pos (hg.2 (hth.1 rfl)) ?_)))
            rw [hat]
            exact ev_pos ⟨by omega, by omega⟩ (Ev.now _)
        | false =>
          have hno : ¬ (getR l a.f0.f0 a.f0.f1).2.2.2.2.2.2 = true := fun h => by have := hth.2 (hg.1 h); cases this
          by_cases hfull : (l.length : Int) = m
          · refine ⟨(0, 0, [], 81), Ev.bind h1 (ev_pos rfl (head _ ?_)), Ev.bind h1' (ev_pos rfl ?_), by simp⟩
            · refine Ev.step (fun k => by rw [board_Put.j0]) ?_
              refine ev_neg (by decide) ?_
              unfold board_open.f
              simp only [Option.bind_some]
              exact Ev.bind f1 (ev_neg (show ¬ (false = true) by decide) (ev_pos hfull (Ev.now _)))
            · rw [refA_is]
              simp only [Option.bind_some]
              exact ev_pos (decide_eq_true hA) (ev_neg hs (Ev.bind rg (ev_neg hno (ev_pos (by omega) (Ev.now _)))))
          · have hlt : (l.length : Int) < m := by have := hw.2.2.2.2.1; omega
            refine ⟨(m, n, putL l a q false, 0), Ev.bind h1 (ev_pos rfl (head _ ?_)), Ev.bind h1' (ev_pos rfl ?_), by show (putL l a q false).length ≤ 61; rw [put_len f2]; simp; omega⟩
            · refine Ev.step (fun k => by rw [board_Put.j0]) ?_
              refine ev_neg (by decide) ?_
              unfold board_open.f
              simp only [Option.bind_some]
              refine Ev.bind f1 (ev_neg (show ¬ (false = true) by decide) (ev_neg hfull ?_))
              have hwi := with_ev l [a] q 0 (by omega) (by simp) (by omega)
              refine Ev.bind (a := putL l a q false) ?_ (Ev.now _)
              unfold putL
              rw [show l.take q ++ a :: l.drop (q + if false = true then 1 else 0) = l.take q ++ [a] ++ l.drop (q + 0) by simp]
              exact hwi
            · rw [refA_is]
              simp only [Option.bind_some]
              refine ev_pos (decide_eq_true hA) (ev_neg hs (Ev.bind rg (ev_neg hno (ev_neg (by omega) ?_))))
              rw [hat]
              exact ev_pos ⟨by omega, by omega⟩ (Ev.now _)
    · refine ⟨(0, 0, [], 1), Ev.bind h1 (ev_pos rfl ?_), Ev.bind h1' (ev_pos rfl ?_), by simp⟩
      · rw [alarm_Is_eq]
        simp only [Option.bind_some]
        exact ev_neg (by rw [decide_eq_false hA]; decide) bad
      · rw [refA_is]
        simp only [Option.bind_some]
        exact ev_neg (by rw [decide_eq_false hA]; decide) (Ev.now _)
/-! ### what is dropped -/
theorem p_iff (s : Sp) (x : Al) : watchmanref08_Drop.p s.f0 s.f1 x = true ↔ x.f0 ≠ s := by
  unfold watchmanref08_Drop.p
  constructor
  · intro h e
    rw [e] at h
    simp at h
  · intro h
    cases h2 : (!(x.f0.f0 == s.f0) || !(x.f0.f1 == s.f1)) with
    | true => rfl
    | false =>
      simp at h2
      exact absurd (sp_ext h2.1 h2.2) h
theorem drop_both (m n : Int) (l : List Al) (hb : l.length ≤ 60) (s : Sp) : ∃ r, Ev (fun k => board_Drop.f k m n l s.f0 s.f1) r ∧ Ev (fun k => watchmanref08_Drop.f k m n l s.f0 s.f1) r ∧ r.2.2.1.length ≤ 61 := by
  obtain ⟨b, h1, h1', h2⟩ := is_both m n l (by omega)
  unfold board_Drop.f watchmanref08_Drop.f
  cases b with
  | false => exact ⟨_, Ev.bind h1 (ev_neg (by decide) (Ev.now _)), Ev.bind h1' (ev_neg (by decide) (Ev.now _)), by simp⟩
  | true =>
    have hw := h2.1 rfl
    have hasc := hw.2.2.2.2.2.2
    obtain ⟨q, t, f1, f2⟩ := find_ev l s (by omega)
    have hth := f2.there hasc
    have hg := getR_there l s
    have rg := refget_ev m n l s.f0 s.f1 (by omega)
    cases t with
    | true =>
      have hq2 : q < l.length := (f2.2.2.2.1 rfl).1
      refine ⟨(m, n, dropL l q, 0), Ev.bind h1 (ev_pos rfl ?_), Ev.bind h1' (ev_pos rfl (Ev.bind rg (ev_pos (hg.2 (hth.1 rfl)) (ev_pos (by omega) ?_)))), by have := (drop_sub l q).length_le; show (dropL l q).length ≤ 61; omega⟩
      · unfold board_open.f
        simp only [Option.bind_some]
        refine Ev.bind f1 (ev_pos rfl ?_)
        have hwi := with_ev l [] q 1 (by omega) (by simp) (by omega)
        rw [List.append_nil] at hwi
        exact Ev.bind (a := dropL l q) hwi (Ev.now _)
      · have e : l.filter (watchmanref08_Drop.p s.f0 s.f1) = dropL l q := asc_ext (hasc.sublist List.filter_sublist) (hasc.sublist (drop_sub _ _)) (fun x => by rw [drop_mem f2 hasc, List.mem_filter, p_iff])
        rw [e]
        exact Ev.now _
    | false =>
      refine ⟨(0, 0, [], 80), Ev.bind h1 (ev_pos rfl ?_), Ev.bind h1' (ev_pos rfl (Ev.bind rg (ev_neg (fun h => by have := hth.2 (hg.1 h); cases this) (Ev.now _)))), by simp⟩
      unfold board_open.f
      simp only [Option.bind_some]
      exact Ev.bind f1 (ev_neg (show ¬ (false = true) by decide) (Ev.now _))
/-! ### time -/
def pA (t : Int) (a : Al) : Al := ⟨a.f0, passP a.f0.f0 a.f0.f1 a.f1 a.f2 a.f3 a.f4 t, a.f2, a.f3, passU a.f0.f0 a.f0.f1 a.f1 a.f2 a.f3 a.f4 t⟩
theorem pass_is (a : Al) (t : Int) : Ev (fun k => alarm_Pass.f k a.f0.f0 a.f0.f1 a.f1 a.f2 a.f3 a.f4 t) (a.f0.f0, a.f0.f1, (pA t a).f1, a.f2, a.f3, (pA t a).f4) := by
  refine ⟨4, fun k hk => ?_⟩
  obtain ⟨q, rfl⟩ : ∃ q, k = q + 4 := ⟨k - 4, by omega⟩
  show alarm_Pass.f (q + 4) a.f0.f0 a.f0.f1 a.f1 a.f2 a.f3 a.f4 t = _
  rw [alarm_Pass_eq, passA_parts]
  rfl
theorem refpass_is (a : Al) (t : Int) : Ev (fun k => watchmanref06_Pass.f k a.f0.f0 a.f0.f1 a.f1 a.f2 a.f3 a.f4 t) (a.f0.f0, a.f0.f1, (pA t a).f1, a.f2, a.f3, (pA t a).f4) := by
  refine ⟨8, fun k hk => ?_⟩
  obtain ⟨q, rfl⟩ : ∃ q, k = q + 8 := ⟨k - 8, by omega⟩
  show watchmanref06_Pass.f (q + 8) a.f0.f0 a.f0.f1 a.f1 a.f2 a.f3 a.f4 t = _
  rw [ref06_Pass_eq, passA_parts]
  rfl
theorem pass_l0 (m t : Int) (l : List Al) (hb : l.length < 1000000000) (r : Int × Int × List Al × Int)
    (hfin : Ev (fun k => (board_Is.f k m t (l.map (pA t))).bind fun b => if b = true then some (m, t, l.map (pA t), 0) else some (0, 0, [], 1)) r) : ∀ (d i : Nat), i + d = l.length →
    Ev (fun k => board_Pass.l0 k t l (l.length : Int) (i : Int) m t ((l.take i).map (pA t))) r := by
  intro d
  induction d with
  | zero =>
    intro i hi
    refine Ev.step (fun k => by rw [board_Pass.l0]) ?_
    refine ev_neg (by omega) ?_
    rw [List.take_of_length_le (by omega)]
    exact hfin
  | succ d ih =>
    intro i hi
    have hi2 : i < l.length := by omega
    have h1 := ih (i + 1) (by omega)
    have e : ((i + 1 : Nat) : Int) = wrap64 ((i : Int) + 1) := by rw [wr1 (by omega) (by omega)]; rfl
    rw [e, List.take_succ_eq_append_getElem hi2, List.map_append] at h1
    refine Ev.step (fun k => by rw [board_Pass.l0]) ?_
    refine ev_pos (by omega) (ev_pos (by omega) (ev_pos (by omega) ?_))
    rw [rdA l i hi2]
    refine Ev.bind (pass_is l[i] t) ?_
    exact ev_pos (by rw [List.length_map, List.length_take]; omega) h1
theorem refpass_l0 (m n t : Int) (l : List Al) (hb : l.length < 1000000000) (r : Int × Int × List Al × Int)
    (hfin : Ev (fun k => (watchmanref08_Is.f k m t (l.map (pA t))).bind fun b => if b = true then some (m, t, l.map (pA t), 0) else some (0, 0, [], 1)) r) : ∀ (d i : Nat), i + d = l.length →
    Ev (fun k => watchmanref08_Pass.l0 k t (i : Int) m n l m t ((l.take i).map (pA t))) r := by
  intro d
  induction d with
  | zero =>
    intro i hi
    refine Ev.step (fun k => by rw [watchmanref08_Pass.l0]) ?_
    refine ev_neg (by omega) ?_
    rw [List.take_of_length_le (by omega)]
    exact hfin
  | succ d ih =>
    intro i hi
    have hi2 : i < l.length := by omega
    have h1 := ih (i + 1) (by omega)
    have e : ((i + 1 : Nat) : Int) = wrap64 ((i : Int) + 1) := by rw [wr1 (by omega) (by omega)]; rfl
    rw [e, List.take_succ_eq_append_getElem hi2, List.map_append] at h1
    refine Ev.step (fun k => by rw [watchmanref08_Pass.l0]) ?_
    refine ev_pos (by omega) (ev_pos (by omega) ?_)
    rw [rdA l i hi2]
    refine Ev.bind (refpass_is l[i] t) ?_
    exact ev_pos (by rw [List.length_map, List.length_take]; omega) h1
theorem pass_both (m n : Int) (l : List Al) (hb : l.length ≤ 60) (t : Int) : ∃ r, Ev (fun k => board_Pass.f k m n l t) r ∧ Ev (fun k => watchmanref08_Pass.f k m n l t) r ∧ r.2.2.1.length ≤ 61 := by
  obtain ⟨b, h1, h1', h2⟩ := is_both m n l (by omega)
  have bad : Ev (fun k => board_Pass.j0 k t true m n l) (0, 0, [], 1) := by
    refine Ev.step (fun k => by rw [board_Pass.j0]) ?_
    exact ev_pos rfl (Ev.now _)
  have bad' : Ev (fun k => watchmanref08_Pass.j0 k t true m n l) (0, 0, [], 1) := by
    refine Ev.step (fun k => by rw [watchmanref08_Pass.j0]) ?_
    exact ev_pos rfl (Ev.now _)
  unfold board_Pass.f watchmanref08_Pass.f
  cases b with
  | false => exact ⟨_, Ev.bind h1 (ev_neg (by decide) bad), Ev.bind h1' (ev_neg (by decide) bad'), by simp⟩
  | true =>
    by_cases c1 : t < 0
    · exact ⟨_, Ev.bind h1 (ev_pos rfl (ev_pos c1 bad)), Ev.bind h1' (ev_pos rfl (ev_pos c1 bad')), by simp⟩
    by_cases c2 : t > 1000000000
    · exact ⟨_, Ev.bind h1 (ev_pos rfl (ev_neg c1 (by rw [decide_eq_true c2]; exact bad))), Ev.bind h1' (ev_pos rfl (ev_neg c1 (by rw [decide_eq_true c2]; exact bad'))), by simp⟩
    have head : ∀ r, Ev (fun k => board_Pass.j0 k t false m n l) r → Ev (fun k => if (true : Bool) = true then (if t < 0 then (board_Pass.j0 k t true m n l) else (board_Pass.j0 k t (decide (t > 1000000000)) m n l)) else (board_Pass.j0 k t true m n l)) r := fun r hr => ev_pos rfl (ev_neg c1 (by rw [decide_eq_false c2]; exact hr))
    have head' : ∀ r, Ev (fun k => watchmanref08_Pass.j0 k t false m n l) r → Ev (fun k => if (true : Bool) = true then (if t < 0 then (watchmanref08_Pass.j0 k t true m n l) else (watchmanref08_Pass.j0 k t (decide (t > 1000000000)) m n l)) else (watchmanref08_Pass.j0 k t true m n l)) r := fun r hr => ev_pos rfl (ev_neg c1 (by rw [decide_eq_false c2]; exact hr))
    by_cases c3 : t < n
    · refine ⟨(0, 0, [], 62), Ev.bind h1 (head _ ?_), Ev.bind h1' (head' _ ?_), by simp⟩
      · refine Ev.step (fun k => by rw [board_Pass.j0]) ?_
        exact ev_neg (by decide) (ev_pos c3 (Ev.now _))
      · refine Ev.step (fun k => by rw [watchmanref08_Pass.j0]) ?_
        exact ev_neg (by decide) (ev_pos c3 (Ev.now _))
    · obtain ⟨b2, g1, g1', g2⟩ := is_both m t (l.map (pA t)) (by rw [List.length_map]; omega)
      have go : ∀ r, Ev (fun k => (board_Is.f k m t (l.map (pA t))).bind fun b => if b = true then some (m, t, l.map (pA t), 0) else some (0, 0, [], 1)) r → Ev (fun k => board_Pass.j0 k t false m n l) r := by
        intro r hr
        refine Ev.step (fun k => by rw [board_Pass.j0]) ?_
        refine ev_neg (by decide) (ev_neg c3 ?_)
        exact pass_l0 m t l (by omega) r hr l.length 0 (by omega)
      have go' : ∀ r, Ev (fun k => (watchmanref08_Is.f k m t (l.map (pA t))).bind fun b => if b = true then some (m, t, l.map (pA t), 0) else some (0, 0, [], 1)) r → Ev (fun k => watchmanref08_Pass.j0 k t false m n l) r := by
        intro r hr
        refine Ev.step (fun k => by rw [watchmanref08_Pass.j0]) ?_
        refine ev_neg (by decide) (ev_neg c3 ?_)
        exact refpass_l0 m n t l (by omega) r hr l.length 0 (by omega)
      cases b2 with
      | true =>
        exact ⟨(m, t, l.map (pA t), 0), Ev.bind h1 (head _ (go _ (Ev.bind g1 (ev_pos rfl (Ev.now _))))), Ev.bind h1' (head' _ (go' _ (Ev.bind g1' (ev_pos rfl (Ev.now _))))), by show (l.map (pA t)).length ≤ 61; rw [List.length_map]; omega⟩
      | false =>
        exact ⟨(0, 0, [], 1), Ev.bind h1 (head _ (go _ (Ev.bind g1 (ev_neg (by decide) (Ev.now _))))), Ev.bind h1' (head' _ (go' _ (Ev.bind g1' (ev_neg (by decide) (Ev.now _))))), by simp⟩
/-! ### some beds' alarms -/
theorem rdI (l : List Int) (i : Nat) (h : i < l.length) : rd l (i : Int) = l[i] := by
  simp [rd, List.getD_eq_getElem?_getD, List.getElem?_eq_getElem h]
theorem refof_l1 (beds : List Int) (out l : List Al) (m nn : Int) (i : Nat) (hi : i < l.length) (hb : beds.length ≤ 60) (r : List Al)
    (hfin : Ev (fun k => watchmanref08_Of.l1 k beds out (i : Int) (beds.contains l[i].f0.f0) (beds.length : Int) m nn l) r) : ∀ (d q : Nat) (b : Bool), q + d = beds.length → b = (beds.take q).contains l[i].f0.f0 →
    Ev (fun k => watchmanref08_Of.l1 k beds out (i : Int) b (q : Int) m nn l) r := by
  intro d
  induction d with
  | zero =>
    intro q b hq hb2
    have e : q = beds.length := by omega
    subst e
    rw [List.take_length] at hb2
    rw [hb2]; exact hfin
  | succ d ih =>
    intro q b hq hb2
    have hq2 : q < beds.length := by omega
    have e : ((q + 1 : Nat) : Int) = wrap64 ((q : Int) + 1) := by rw [wr1 (by omega) (by omega)]; rfl
    have et : (beds.take (q + 1)).contains l[i].f0.f0 = ((beds.take q).contains l[i].f0.f0 || (beds[q] == l[i].f0.f0)) := by
      rw [Bool.eq_iff_iff, Bool.or_eq_true, List.contains_iff_mem, List.contains_iff_mem, List.take_succ_eq_append_getElem hq2, List.mem_append, List.mem_singleton, beq_iff_eq]
      constructor
      · rintro (h | h)
        · exact .inl h
        · exact .inr h.symm
      · rintro (h | h)
        · exact .inl h
        · exact .inr h.symm
    refine Ev.step (fun k => by rw [watchmanref08_Of.l1]) ?_
    refine ev_pos (by omega) ?_
    cases hbb : b with
    | true =>
      refine ev_pos rfl ?_
      have := ih (q + 1) true (by omega) (by rw [et, ← hb2, hbb]; rfl)
      rw [e] at this
      exact this
    | false =>
      refine ev_neg (by decide) (ev_pos (by omega) (ev_pos (by omega) (ev_pos (by omega) ?_)))
      rw [rdI beds q hq2, rdA l i hi]
      have := ih (q + 1) (beds[q] == l[i].f0.f0) (by omega) (by rw [et, ← hb2, hbb]; rfl)
      rw [e] at this
      exact this
theorem refof_l0 (beds : List Int) (l : List Al) (m nn : Int) (hb : beds.length ≤ 60) (hl : l.length ≤ 60) : ∀ (d i : Nat), i + d = l.length →
    Ev (fun k => watchmanref08_Of.l0 k beds ((l.take i).filter (fun x => beds.contains x.f0.f0)) (i : Int) m nn l) (l.filter (fun x => beds.contains x.f0.f0)) := by
  intro d
  induction d with
  | zero =>
    intro i hi
    refine Ev.step (fun k => by rw [watchmanref08_Of.l0]) ?_
    refine ev_neg (by omega) ?_
    rw [List.take_of_length_le (by omega)]
    exact Ev.now _
  | succ d ih =>
    intro i hi
    have hi2 : i < l.length := by omega
    have h1 := ih (i + 1) (by omega)
    have e : ((i + 1 : Nat) : Int) = wrap64 ((i : Int) + 1) := by rw [wr1 (by omega) (by omega)]; rfl
    rw [e, List.take_succ_eq_append_getElem hi2, List.filter_append] at h1
    have hle : ((l.take i).filter (fun x => beds.contains x.f0.f0)).length ≤ 60 := by
      have := List.length_filter_le (fun x : Al => beds.contains x.f0.f0) (l.take i)
      rw [List.length_take] at this
      omega
    refine Ev.step (fun k => by rw [watchmanref08_Of.l0]) ?_
    refine ev_pos (by omega) ?_
    refine refof_l1 beds _ l m nn i hi2 hb _ ?_ beds.length 0 false (by omega) (by simp)
    refine Ev.step (fun k => by rw [watchmanref08_Of.l1]) ?_
    refine ev_neg (by omega) ?_
    cases hc : beds.contains l[i].f0.f0 with
    | false =>
      refine ev_neg (by decide) ?_
      rw [List.filter_cons_of_neg (by rw [hc]; decide), List.filter_nil, List.append_nil] at h1
      exact h1
    | true =>
      rw [List.filter_cons_of_pos (by exact hc), List.filter_nil] at h1
      refine ev_pos rfl (ev_pos (by omega) (ev_pos (by omega) (ev_pos (Nat.lt_of_le_of_lt hle (by decide)) ?_)))
      rw [rdA l i hi2]
      exact h1
/-! ### others -/
theorem smudge_l0 : ∀ (d : Nat) (l : List Al) (i : Nat), l.length < 1000000 → i + d = l.length → ∃ z, Ev (fun k => watchmanlaw08_smudge.l0 k l (i : Int)) z := by
  intro d
  induction d with
  | zero =>
    intro l i hb hi
    refine ⟨l, Ev.step (fun k => by rw [watchmanlaw08_smudge.l0]) ?_⟩
    exact ev_neg (by omega) (Ev.now _)
  | succ d ih =>
    intro l i hb hi
    have e : ((i + 1 : Nat) : Int) = wrap64 ((i : Int) + 1) := by rw [wr1 (by omega) (by omega)]; rfl
    obtain ⟨z, h1⟩ := ih (l.set (i : Int).toNat (⟨⟨(rd_T28 l i).f0.f0, (rd_T28 l i).f0.f1⟩, (rd_T28 l i).f1, 77, (rd_T28 l i).f3, (rd_T28 l i).f4⟩ : Al)) (i + 1) (by rw [List.length_set]; exact hb) (by rw [List.length_set]; omega)
    rw [e] at h1
    refine ⟨z, Ev.step (fun k => by rw [watchmanlaw08_smudge.l0]) ?_⟩
    exact ev_pos (by omega) (ev_pos (by omega) h1)
theorem smudge_ev (l : List Al) (hb : l.length < 1000000) : ∃ z, Ev (fun k => watchmanlaw08_smudge.f k l) z := smudge_l0 l.length l 0 hb (by omega)
theorem samerow_ev (l : List Al) (hb : l.length < 4611686018427387904) : Ev (fun k => watchmanref07_Same.f k l l) true := by
  unfold watchmanref07_Same.f
  exact ev_pos rfl (same_l0 l hb l.length 0 (by omega))
theorem new_both (x : Int) : ∃ r, board_New.f x = some r ∧ watchmanref08_New.f x = some r ∧ r.2.2.1 = [] := by
  unfold board_New.f watchmanref08_New.f
  by_cases h1 : x < 1
  · exact ⟨_, if_pos h1, if_pos h1, rfl⟩
  · by_cases h2 : x > 200
    · exact ⟨_, (if_neg h1).trans (if_pos h2), (if_neg h1).trans (if_pos h2), rfl⟩
    · exact ⟨_, (if_neg h1).trans (if_neg h2), (if_neg h1).trans (if_neg h2), rfl⟩
theorem BoardDoes_pure : watchmanlaw08_BoardDoes.Pure := by
  intro m n l a0 a1 a2 a3 a4 a5 s0 s1 t most beds
  intros
  have key : ∃ K, ∀ k, K ≤ k → watchmanlaw08_BoardDoes.Holds k m n l a0 a1 a2 a3 a4 a5 s0 s1 t most beds := by
    by_cases e0 : (l.length : Int) > 60
    · exact ⟨0, fun k _ => .inl (by unfold watchmanlaw08_far.f; rw [decide_eq_true e0])⟩
    have g0 : watchmanlaw08_far.f m n l = some false := by unfold watchmanlaw08_far.f; rw [decide_eq_false e0]
    by_cases e1 : (beds.length : Int) > 60
    · exact ⟨0, fun k _ => .inr (.inl ⟨g0, decide_eq_true e1⟩)⟩
    have own : watchmanref08_Own.f m n l = some (m, n, l) := by
      unfold watchmanref08_Own.f watchmanref07_Own.f
      rw [if_pos (by simp; omega), List.nil_append]
      rfl
    have own1 : watchmanref01_Own.f beds = some beds := by
      unfold watchmanref01_Own.f
      rw [if_pos (by simp; omega), List.nil_append]
    obtain ⟨c, ⟨K1, p1⟩, ⟨K2, p2⟩, cl⟩ := put_both m n l (by omega) ⟨⟨a0, a1⟩, a2, a3, a4, a5⟩
    obtain ⟨g, ⟨K3, p3⟩, ⟨K4, p4⟩, gl⟩ := drop_both m n l (by omega) ⟨s0, s1⟩
    obtain ⟨h, ⟨K5, p5⟩, ⟨K6, p6⟩, hl⟩ := pass_both m n l (by omega) t
    obtain ⟨K7, p7⟩ := refget_ev m n l s0 s1 (by omega)
    obtain ⟨q, q1, q2, q3⟩ := new_both most
    obtain ⟨K8, p8⟩ := same_ev c.1 c.2.1 c.2.2.1 (by omega)
    obtain ⟨K9, p9⟩ := same_ev g.1 g.2.1 g.2.2.1 (by omega)
    obtain ⟨K10, p10⟩ := same_ev h.1 h.2.1 h.2.2.1 (by omega)
    obtain ⟨K11, p11⟩ := same_ev q.1 q.2.1 q.2.2.1 (by rw [q3]; simp)
    have hv : board_Of.f m n l beds = some (l.filter (fun x => beds.contains x.f0.f0)) := by
      unfold board_Of.f
      rw [if_pos (by omega)]
    have hvl := List.length_filter_le (fun x : Al => beds.contains x.f0.f0) l
    obtain ⟨K12, p12⟩ := refof_l0 beds l m n (by omega) (by omega) l.length 0 (by omega)
    obtain ⟨K13, p13⟩ := samerow_ev (l.filter (fun x => beds.contains x.f0.f0)) (by omega)
    obtain ⟨z1, K14, p14⟩ := smudge_ev c.2.2.1 (by omega)
    obtain ⟨z2, K15, p15⟩ := smudge_ev g.2.2.1 (by omega)
    obtain ⟨z3, K16, p16⟩ := smudge_ev h.2.2.1 (by omega)
    obtain ⟨z4, K17, p17⟩ := smudge_ev (l.filter (fun x => beds.contains x.f0.f0)) (by omega)
    obtain ⟨b, ⟨K18, p18⟩, ⟨K19, p19⟩, _⟩ := is_both m n l (by omega)
    obtain ⟨K20, p20⟩ := same_ev m n l (by omega)
    refine ⟨K1 + K2 + K3 + K4 + K5 + K6 + K7 + K8 + K9 + K10 + K11 + K12 + K13 + K14 + K15 + K16 + K17 + K18 + K19 + K20, fun k hk => .inr (.inr ⟨g0, decide_eq_false e1, ?_⟩)⟩
    exact ⟨l, own, c.1, c.2.1, c.2.2.1, c.2.2.2, p1 k (by omega), c.1, c.2.1, c.2.2.1, p2 k (by omega), g.1, g.2.1, g.2.2.1, g.2.2.2, p3 k (by omega), g.1, g.2.1, g.2.2.1, p4 k (by omega),
      h.1, h.2.1, h.2.2.1, h.2.2.2, p5 k (by omega), h.1, h.2.1, h.2.2.1, p6 k (by omega), _, _, _, _, _, _, _, get_is m n l s0 s1, p7 k (by omega), q.1, q.2.1, q.2.2.1, q.2.2.2, q1, q.1, q.2.1, q.2.2.1, q2,
      p8 k (by omega), p9 k (by omega), p10 k (by omega), p11 k (by omega), _, hv, beds, own1, _, p12 k (by omega), p13 k (by omega), z1, p14 k (by omega), z2, p15 k (by omega), z3, p16 k (by omega), z4, p17 k (by omega), b, p18 k (by omega), p19 k (by omega), p20 k (by omega)⟩
  obtain ⟨K, hK⟩ := key
  refine ⟨K, ?_⟩
  unfold watchmanlaw08_BoardDoes.f
  rw [if_pos (hK K (Nat.le_refl _))]
end Go.Proofs.Ytcfpbmdndapeaaa.F
