/- The pure statement of SessionDoes: what the program's functions of chapter 18 answer is what the document's answer; all of them answer. -/
import Derived.Test.YtkhdpmbjjcmooaaTd
import Derived.Test.YtkhdpmbjjcmooaaF2
import Derived.Test.YtkhdpmbjjcmooaaF12
import Derived.Test.YtkhdpmbjjcmooaaF14
import Derived.Test.YtkhdpmbjjcmooaaF13
import Derived.Test.YtkhdpmbjjcmooaaF16
import Derived.Test.YtkhdpmbjjcmooaaF11
import Derived.Test.YtkhdpmbjjcmooaaF10
import Derived.Test.YtkhdpmbjjcmooaaF9
import Derived.Test.YtkhdpmbjjcmooaaF1
import Derived.Test.YtkhdpmbjjcmooaaF18
import Derived.Test.YtkhdpmbjjcmooaaF17
import Derived.Test.YtkhdpmbjjcmooaaQSessionDoes
set_option linter.unusedSimpArgs false
namespace Go.Proofs.Ytkhdpmbjjcmooaa.F
open Go.RowKit Go.Proofs.YtkhdpmbjjcmooaaV.PrintWords Go.Proofs.YtkhdpmbjjcmooaaV.PrintLast
theorem owna_is (a n : Int) (s : List ByteArray) (h : s.length < 8796093022208) : watchmanref18_OwnAnswer.f a n s = some (a, n, s) := by
  unfold watchmanref18_OwnAnswer.f watchmanref01_OwnTexts.f
  rw [if_pos (by simpa using h), List.nil_append]
  rfl
theorem refown_l0 (l : List Cl) (hs : sml l) (hb : l.length < 2199023255552) : ∀ (d i : Nat), i + d = l.length → Ev (fun k => watchmanref18_Own.l0 k l (l.take i) (i : Int)) l := by
  intro d
  induction d with
  | zero =>
    intro i hi
    refine Ev.step (fun k => by rw [watchmanref18_Own.l0]) ?_
    refine ev_neg (by omega) ?_
    rw [List.take_of_length_le (by omega)]
    exact Ev.now _
  | succ d ih =>
    intro i hi
    have hi2 : i < l.length := by omega
    have h1 := ih (i + 1) (by omega)
    have e : ((i + 1 : Nat) : Int) = wrap64 ((i : Int) + 1) := by rw [wr1 (by omega) (by omega)]; rfl
    rw [e, List.take_succ_eq_append_getElem hi2] at h1
    refine Ev.step (fun k => by rw [watchmanref18_Own.l0]) ?_
    refine ev_pos (by omega) ?_
    refine ev_pos (by omega) ?_
    rw [rdC l i hi2, owna_is _ _ _ (hs _ (List.getElem_mem hi2))]
    simp only [Option.bind_some]
    exact ev_pos (by rw [List.length_take]; omega) h1
theorem refown_ev (l : List Cl) (hs : sml l) (hb : l.length < 2199023255552) : Ev (fun k => watchmanref18_Own.f k l) l := refown_l0 l hs hb l.length 0 (by omega)
/-! ### what may be, by the document -/
theorem answer_l0 (a n : Int) (s : List ByteArray) (hb : s.length < 4611686018427387904) : ∀ (d i : Nat), i + d = s.length → Ev (fun k => watchmanref18_Answer.l0 k (i : Int) a n s) (!(s.drop i).any (fun x => decide (80 < (x.size : Int)))) := by
  intro d
  induction d with
  | zero =>
    intro i hi
    refine Ev.step (fun k => by rw [watchmanref18_Answer.l0]) ?_
    refine ev_neg (by omega) ?_
    rw [List.drop_eq_nil_of_le (by omega)]
    exact Ev.now _
  | succ d ih =>
    intro i hi
    have hi2 : i < s.length := by omega
    have h1 := ih (i + 1) (by omega)
    have e : ((i + 1 : Nat) : Int) = wrap64 ((i : Int) + 1) := by rw [wr1 (by omega) (by omega)]; rfl
    rw [e] at h1
    refine Ev.step (fun k => by rw [watchmanref18_Answer.l0]) ?_
    refine ev_pos (by omega) ?_
    refine ev_pos (by omega) ?_
    have er : rdOf ByteArray.empty s (i : Int) = s[i] := by simp [rdOf, List.getD_eq_getElem?_getD, List.getElem?_eq_getElem hi2]
    rw [er, List.drop_eq_getElem_cons hi2, List.any_cons]
    by_cases hc : (s[i].size : Int) > 80
    · rw [decide_eq_true (show 80 < (s[i].size : Int) from hc)]
      exact ev_pos hc (Ev.now _)
    · rw [decide_eq_false (show ¬ 80 < (s[i].size : Int) from hc), Bool.false_or]
      exact ev_neg hc h1
theorem answer_ev (a n : Int) (s : List ByteArray) (hb : s.length < 4611686018427387904) : Ev (fun k => watchmanref18_Answer.f k a n s) (oka a n s) := by
  have bad : Ev (fun k => watchmanref18_Answer.j0 k true a n s) false := by
    refine Ev.step (fun k => by rw [watchmanref18_Answer.j0]) ?_
    exact ev_pos rfl (Ev.now _)
  have out : ¬ (0 ≤ a ∧ a ≤ 1000 ∧ -1000000000 ≤ n ∧ n ≤ 1000000000 ∧ (s.length : Int) ≤ 20) → (decide (0 ≤ a ∧ a ≤ 1000 ∧ -1000000000 ≤ n ∧ n ≤ 1000000000 ∧ (s.length : Int) ≤ 20) && !s.any (fun x => decide (80 < (x.size : Int)))) = false := fun h => by rw [decide_eq_false h]; rfl
  unfold watchmanref18_Answer.f oka
  by_cases h1 : a < 0
  · rw [out (fun h => by omega)]; exact ev_pos h1 bad
  refine ev_neg h1 ?_
  by_cases h2 : a > 1000
  · rw [out (fun h => by omega)]; exact ev_pos h2 bad
  refine ev_neg h2 ?_
  by_cases h3 : n < -1000000000
  · rw [out (fun h => by omega)]; exact ev_pos h3 bad
  refine ev_neg h3 ?_
  by_cases h4 : n > 1000000000
  · rw [out (fun h => by omega)]; exact ev_pos h4 bad
  refine ev_neg h4 ?_
  by_cases h5 : (s.length : Int) > 20
  · rw [out (fun h => by omega), decide_eq_true h5]; exact bad
  · rw [decide_eq_true (show 0 ≤ a ∧ a ≤ 1000 ∧ -1000000000 ≤ n ∧ n ≤ 1000000000 ∧ (s.length : Int) ≤ 20 from ⟨by omega, by omega, by omega, by omega, by omega⟩), decide_eq_false h5, Bool.true_and]
    refine Ev.step (fun k => by rw [watchmanref18_Answer.j0]) ?_
    refine ev_neg (by decide) ?_
    exact answer_l0 a n s hb s.length 0 (by omega)
theorem may_ev (c : Cl) (hb : c.f3.f2.length < 4611686018427387904) : Ev (fun k => watchmanref18_may.f k c.f0 c.f1 c.f2 c.f3.f0 c.f3.f1 c.f3.f2) (okc c) := by
  unfold watchmanref18_may.f okc
  by_cases h1 : c.f0 < 1
  · rw [decide_eq_false (fun h => by omega)]; exact ev_pos h1 (Ev.now _)
  refine ev_neg h1 ?_
  by_cases h2 : c.f0 > 1000000000
  · rw [decide_eq_false (fun h => by omega)]; exact ev_pos h2 (Ev.now _)
  refine ev_neg h2 ?_
  by_cases h3 : c.f1 < 0
  · rw [decide_eq_false (fun h => by omega)]; exact ev_pos h3 (Ev.now _)
  refine ev_neg h3 ?_
  by_cases h4 : c.f1 > 1000000000
  · rw [decide_eq_false (fun h => by omega)]; exact ev_pos h4 (Ev.now _)
  refine ev_neg h4 ?_
  by_cases h5 : c.f2 < 0
  · rw [decide_eq_false (fun h => by omega)]; exact ev_pos h5 (Ev.now _)
  refine ev_neg h5 ?_
  by_cases h6 : c.f2 > 1000000000
  · rw [decide_eq_false (fun h => by omega)]; exact ev_pos h6 (Ev.now _)
  refine ev_neg h6 ?_
  rw [decide_eq_true (show 1 ≤ c.f0 ∧ c.f0 ≤ 1000000000 ∧ 0 ≤ c.f1 ∧ c.f1 ≤ 1000000000 ∧ 0 ≤ c.f2 ∧ c.f2 ≤ 1000000000 from ⟨by omega, by omega, by omega, by omega, by omega, by omega⟩), Bool.true_and]
  exact Ev.bind (answer_ev _ _ _ hb) (Ev.now _)
theorem refis_l0 (l : List Cl) (hb : l.length < 4611686018427387904) (hs : sml l) : ∀ (d i : Nat), i + d = l.length →
    ∃ b, Ev (fun k => watchmanref18_Is.l0 k l (i : Int)) b ∧ (b = true ↔ (∀ j, i ≤ j → ∀ h : j < l.length, okc l[j] = true ∧ ∀ h2 : 0 < j, l[j - 1].f0 < l[j].f0) ∧ l.length ≤ 30) := by
  intro d
  induction d with
  | zero =>
    intro i hi
    refine ⟨decide ((l.length : Int) ≤ 30), ?_, ?_⟩
    · refine Ev.step (fun k => by rw [watchmanref18_Is.l0]) ?_
      exact ev_neg (by omega) (Ev.now _)
    · rw [decide_eq_true_iff]
      exact ⟨fun h => ⟨fun j h1 h2 => absurd h2 (by omega), by omega⟩, fun h => by omega⟩
  | succ d ih =>
    intro i hi
    have hi2 : i < l.length := by omega
    have hm := may_ev l[i] (by have := hs _ (List.getElem_mem hi2); omega)
    obtain ⟨b, h1, h2⟩ := ih (i + 1) (by omega)
    have e : ((i + 1 : Nat) : Int) = wrap64 ((i : Int) + 1) := by rw [wr1 (by omega) (by omega)]; rfl
    rw [e] at h1
    cases hc : okc l[i] with
    | false =>
      refine ⟨false, ?_, ⟨fun h => (by cases h), fun h => by have := (h.1 i (Nat.le_refl _) hi2).1; rw [hc] at this; cases this⟩⟩
      refine Ev.step (fun k => by rw [watchmanref18_Is.l0]) ?_
      refine ev_pos (by omega) ?_
      refine ev_pos (by omega) ?_
      rw [rdC l i hi2]
      rw [hc] at hm
      exact Ev.bind hm (ev_neg (by decide) (Ev.now _))
    | true =>
      rw [hc] at hm
      by_cases h0 : i = 0
      · subst h0
        refine ⟨b, ?_, h2.trans ⟨fun h => ⟨fun j _ hj => ?_, h.2⟩, fun h => ⟨fun j hj hj2 => h.1 j (by omega) hj2, h.2⟩⟩⟩
        · refine Ev.step (fun k => by rw [watchmanref18_Is.l0]) ?_
          refine ev_pos (by omega) ?_
          refine ev_pos (by omega) ?_
          rw [rdC l 0 hi2]
          exact Ev.bind hm (ev_pos rfl (ev_neg (by omega) h1))
        · by_cases hj0 : j = 0
          · subst hj0; exact ⟨hc, fun h2 => absurd h2 (by omega)⟩
          · exact h.1 j (by omega) hj
      · have ew : wrap64 ((i : Int) - 1) = ((i - 1 : Nat) : Int) := by rw [wrm (by omega) (by omega)]; omega
        by_cases hlt : l[i - 1].f0 < l[i].f0
        · refine ⟨b, ?_, h2.trans ⟨fun h => ⟨fun j hj hj2 => ?_, h.2⟩, fun h => ⟨fun j hj hj2 => h.1 j (by omega) hj2, h.2⟩⟩⟩
          · refine Ev.step (fun k => by rw [watchmanref18_Is.l0]) ?_
            refine ev_pos (by omega) ?_
            refine ev_pos (by omega) ?_
            rw [rdC l i hi2, ew, rdC l (i - 1) (by omega)]
            exact Ev.bind hm (ev_pos rfl (ev_pos (by omega) (ev_pos (by omega) (ev_pos (by omega) (ev_neg (by omega) h1)))))
          · by_cases hji : j = i
            · subst hji; exact ⟨hc, fun _ => hlt⟩
            · exact h.1 j (by omega) hj2
        · refine ⟨false, ?_, ⟨fun h => (by cases h), fun h => absurd ((h.1 i (Nat.le_refl _) hi2).2 (by omega)) hlt⟩⟩
          refine Ev.step (fun k => by rw [watchmanref18_Is.l0]) ?_
          refine ev_pos (by omega) ?_
          refine ev_pos (by omega) ?_
          rw [rdC l i hi2, ew, rdC l (i - 1) (by omega)]
          exact Ev.bind hm (ev_pos rfl (ev_pos (by omega) (ev_pos (by omega) (ev_pos (by omega) (ev_pos (by omega) (Ev.now _))))))
theorem is_both (l : List Cl) (hb : l.length < 4611686018427387904) (hs : sml l) : ∃ b, Ev (fun k => session_Is.f k l) b ∧ Ev (fun k => watchmanref18_Is.f k l) b ∧ (b = true ↔ isW l) := by
  obtain ⟨b, h1, h2⟩ := is_ev l hb
  obtain ⟨b', h3, h4⟩ := refis_l0 l hb hs l.length 0 (by omega)
  have e : b' = b := by
    have h5 : b' = true ↔ isW l := h4.trans ⟨fun h => ⟨fun c hc => by obtain ⟨j, hj, rfl⟩ := List.mem_iff_getElem.1 hc; exact (h.1 j (by omega) hj).1, (pw_adj l).2 (fun j hj => (h.1 (j + 1) (by omega) hj).2 (by omega)), h.2⟩, fun h => ⟨fun j _ hj => ⟨h.1 _ (List.getElem_mem hj), fun h0 => by have := (pw_adj l).1 h.2.1 (j - 1) (by omega); simpa [show j - 1 + 1 = j by omega] using this⟩, h.2.2⟩⟩
    exact Bool.eq_iff_iff.2 (h5.trans h2.symm)
  subst e
  exact ⟨b', h1, h3, h2⟩
/-! ### who is found, and what a check tells -/
def fnr (l : List Cl) (id : Int) : Int × Int × Int × Int × Int × List ByteArray × Bool :=
  match fnd l id with
  | none => (0, 0, 0, 0, 0, [], false)
  | some c => (c.f0, c.f1, c.f2, c.f3.f0, c.f3.f1, c.f3.f2, true)
theorem find_is (l : List Cl) (id : Int) (hs : sml l) : session_Find.f l id = some (fnr l id) := by
  unfold fnr
  cases h : fnd l id with
  | none => exact find_none h
  | some c => exact find_some hs h
theorem reffind_l0 (l : List Cl) (id : Int) (hs : sml l) (hb : l.length < 4611686018427387904) : ∀ (d i : Nat), i + d = l.length → Ev (fun k => watchmanref18_Find.l0 k l id (i : Int)) (fnr (l.drop i) id) := by
  intro d
  induction d with
  | zero =>
    intro i hi
    refine Ev.step (fun k => by rw [watchmanref18_Find.l0]) ?_
    refine ev_neg (by omega) ?_
    rw [List.drop_eq_nil_of_le (by omega)]
    exact Ev.now _
  | succ d ih =>
    intro i hi
    have hi2 : i < l.length := by omega
    have h1 := ih (i + 1) (by omega)
    have e : ((i + 1 : Nat) : Int) = wrap64 ((i : Int) + 1) := by rw [wr1 (by omega) (by omega)]; rfl
    rw [e] at h1
    refine Ev.step (fun k => by rw [watchmanref18_Find.l0]) ?_
    refine ev_pos (by omega) ?_
    refine ev_pos (by omega) ?_
    rw [rdC l i hi2, List.drop_eq_getElem_cons hi2]
    by_cases hc : l[i].f0 = id
    · refine ev_pos hc ?_
      rw [owna_is _ _ _ (hs _ (List.getElem_mem hi2))]
      unfold fnr fnd
      rw [List.find?_cons_of_pos (by simpa using hc)]
      exact Ev.now _
    · refine ev_neg hc ?_
      have e2 : fnr (l[i] :: l.drop (i + 1)) id = fnr (l.drop (i + 1)) id := by
        unfold fnr fnd
        rw [List.find?_cons_of_neg (by simpa using hc)]
      rw [e2]
      exact h1
theorem reffind_ev (l : List Cl) (id : Int) (hs : sml l) (hb : l.length < 4611686018427387904) : Ev (fun k => watchmanref18_Find.f k l id) (fnr l id) := by
  have := reffind_l0 l id hs hb l.length 0 (by omega)
  unfold watchmanref18_Find.f
  simpa using this
theorem refcheck_ev (l : List Cl) (hs : sml l) (hb : l.length < 4611686018427387904) (id req : Int) : Ev (fun k => watchmanref18_Check.f k l id req) (chk l id req) := by
  unfold watchmanref18_Check.f chk
  have hf := reffind_ev l id hs hb
  unfold fnr at hf
  cases h : fnd l id with
  | none =>
    rw [h] at hf
    exact Ev.bind hf (ev_neg (by decide) (Ev.now _))
  | some c =>
    rw [h] at hf
    refine Ev.bind hf (ev_pos rfl ?_)
    simp only []
    by_cases h1 : req < 1
    · rw [if_pos (Or.inl h1)]
      refine ev_pos h1 ?_
      refine Ev.step (fun k => by rw [watchmanref18_Check.j0]) ?_
      exact ev_pos rfl (Ev.now _)
    · refine ev_neg h1 ?_
      refine Ev.step (fun k => by rw [watchmanref18_Check.j0]) ?_
      by_cases h2 : req < c.f1
      · rw [if_pos (show req < 1 ∨ req < c.f1 from Or.inr h2)]
        exact ev_pos (decide_eq_true h2) (Ev.now _)
      · rw [if_neg (show ¬ (req < 1 ∨ req < c.f1) by rintro (h | h) <;> omega)]
        refine ev_neg (fun h => h2 (of_decide_eq_true h)) ?_
        by_cases h3 : req = c.f1
        · rw [if_pos h3, if_pos h3]
          exact Ev.now _
        · rw [if_neg h3, if_neg h3]
          exact Ev.now _
/-! ### the oldest -/
def olr (l : List Cl) : Int × Bool := if h : 0 < l.length then ((old l h).f0, true) else (0, false)
theorem oldest_ev (l : List Cl) (hb : l.length < 4611686018427387904) : Ev (fun k => session_Oldest.f k l) (olr l) := by
  unfold session_Oldest.f olr
  by_cases h : 0 < l.length
  · rw [dif_pos h]
    refine ev_neg (by omega) (ev_pos (by omega) (ev_pos (by omega) ?_))
    exact Ev.bind (old_ev l h hb) (Ev.now _)
  · rw [dif_neg h]
    exact ev_pos (by omega) (Ev.now _)
theorem refoldest_l0 (l : List Cl) (hb : l.length < 4611686018427387904) : ∀ (d i b : Nat) (hb2 : b < l.length), i + d = l.length → 0 < i → ((l.take i).drop 1).foldl old2 (l[0]'(by omega)) = l[b] → Ev (fun k => watchmanref18_Oldest.l0 k l (b : Int) (i : Int)) (olr l) := by
  intro d
  induction d with
  | zero =>
    intro i b hb2 hi h0 hs
    rw [List.take_of_length_le (by omega)] at hs
    refine Ev.step (fun k => by rw [watchmanref18_Oldest.l0]) ?_
    refine ev_neg (by omega) (ev_neg (by omega) (ev_pos (by omega) (ev_pos (by omega) ?_)))
    rw [rdC l b hb2]
    unfold olr old
    rw [dif_pos (by omega), hs]
    exact Ev.now _
  | succ d ih =>
    intro i b hb2 hi h0 hs
    have hi2 : i < l.length := by omega
    have hs2 : ((l.take (i + 1)).drop 1).foldl old2 (l[0]'(by omega)) = old2 l[b] l[i] := by
      rw [List.take_succ_eq_append_getElem hi2, List.drop_append_of_le_length (by rw [List.length_take]; omega), List.foldl_append, hs]
      rfl
    have e : ((i + 1 : Nat) : Int) = wrap64 ((i : Int) + 1) := by rw [wr1 (by omega) (by omega)]; rfl
    refine Ev.step (fun k => by rw [watchmanref18_Oldest.l0]) ?_
    refine ev_pos (by omega) (ev_neg (by omega) (ev_pos (by omega) (ev_pos (by omega) (ev_pos (by omega) ?_))))
    rw [rdC l i hi2, rdC l b hb2]
    have new : older l[i] l[b] → Ev (fun k => watchmanref18_Oldest.l0 k l (i : Int) (wrap64 ((i : Int) + 1))) (olr l) := fun h => by
      rw [← e]
      refine ih (i + 1) i hi2 (by omega) (by omega) ?_
      rw [hs2]; unfold old2; rw [if_pos h]
    have keep : ¬ older l[i] l[b] → Ev (fun k => watchmanref18_Oldest.l0 k l (b : Int) (wrap64 ((i : Int) + 1))) (olr l) := fun h => by
      rw [← e]
      refine ih (i + 1) b hb2 (by omega) (by omega) ?_
      rw [hs2]; unfold old2; rw [if_neg h]
    unfold older at new keep
    by_cases h1 : l[i].f2 < l[b].f2
    · exact ev_pos h1 (new (.inl h1))
    · refine ev_neg h1 ?_
      by_cases h2 : l[i].f2 = l[b].f2
      · refine ev_pos h2 ?_
        by_cases h3 : l[i].f0 < l[b].f0
        · exact ev_pos h3 (new (.inr ⟨h2, h3⟩))
        · exact ev_neg h3 (keep (by omega))
      · exact ev_neg h2 (keep (by omega))
theorem refoldest_ev (l : List Cl) (hb : l.length < 4611686018427387904) : Ev (fun k => watchmanref18_Oldest.f k l) (olr l) := by
  unfold watchmanref18_Oldest.f
  refine Ev.step (fun k => by rw [watchmanref18_Oldest.l0]) ?_
  by_cases h : 0 < l.length
  · refine ev_pos (by omega) (ev_pos (by decide) ?_)
    have := refoldest_l0 l hb (l.length - 1) 1 0 h (by omega) (by omega) (by
      have hd : (l.take 1).drop 1 = [] := List.drop_eq_nil_of_le (by rw [List.length_take]; omega)
      rw [hd]; rfl)
    have e : wrap64 (0 + 1) = ((1 : Nat) : Int) := by unfold wrap64; omega
    rw [e]
    exact this
  · refine ev_neg (by omega) (ev_pos (by decide) ?_)
    unfold olr
    rw [dif_neg h]
    exact Ev.now _
/-! ### opened -/
abbrev nw (now : Int) : Cl := ⟨now, 0, now, ⟨0, 0, []⟩⟩
theorem pw_ne {l : List Cl} (hp : l.Pairwise (fun a b => a.f0 < b.f0)) (i j : Nat) (hi : i < l.length) (hj : j < l.length) (h : i ≠ j) : l[i].f0 ≠ l[j].f0 := by
  rw [List.pairwise_iff_getElem] at hp
  rcases Nat.lt_or_ge i j with h1 | h1
  · have := hp i j hi hj h1; omega
  · have := hp j i hj hi (by omega); omega
theorem filter_erase : ∀ (l : List Cl) (_ : l.Pairwise (fun a b => a.f0 < b.f0)) (i : Nat) (hi : i < l.length), l.filter (fun x => !decide (x.f0 = (l[i]).f0)) = l.eraseIdx i
  | [], _, i, hi => by simp at hi
  | x :: r, hp, 0, _ => by
    rw [List.pairwise_cons] at hp
    rw [List.eraseIdx_cons_zero, List.filter_cons_of_neg (by simp), List.filter_eq_self]
    intro y hy
    have := hp.1 y hy
    simp; omega
  | x :: r, hp, i + 1, hi => by
    rw [List.pairwise_cons] at hp
    have hi2 : i < r.length := by simpa using hi
    have := hp.1 r[i] (List.getElem_mem hi2)
    rw [List.eraseIdx_cons_succ, List.getElem_cons_succ, List.filter_cons_of_pos (by simp; omega), filter_erase r hp.2 i hi2]
theorem refopen_l1 (most now : Int) (x : List Cl) (id : Int) (hb : x.length < 1099511627776) (r : List Cl × Int × Int) (hout : Ev (fun k => watchmanref18_Open.l0 k most now (x.filter (fun c => !decide (c.f0 = id)))) r) : ∀ (d i : Nat) (out : List Cl), i + d = x.length → out.length ≤ i → out ++ (x.drop i).filter (fun c => !decide (c.f0 = id)) = x.filter (fun c => !decide (c.f0 = id)) →
    Ev (fun k => watchmanref18_Open.l1 k most now x id out (i : Int)) r := by
  intro d
  induction d with
  | zero =>
    intro i out hi ho he
    refine Ev.step (fun k => by rw [watchmanref18_Open.l1]) ?_
    refine ev_neg (by omega) ?_
    rw [List.drop_eq_nil_of_le (by omega), List.filter_nil, List.append_nil] at he
    rw [he]
    exact hout
  | succ d ih =>
    intro i out hi ho he
    have hi2 : i < x.length := by omega
    have e : ((i + 1 : Nat) : Int) = wrap64 ((i : Int) + 1) := by rw [wr1 (by omega) (by omega)]; rfl
    refine Ev.step (fun k => by rw [watchmanref18_Open.l1]) ?_
    refine ev_pos (by omega) (ev_pos (by omega) ?_)
    rw [rdC x i hi2, ← e]
    rw [List.drop_eq_getElem_cons hi2] at he
    by_cases h : x[i].f0 = id
    · refine ev_pos h ?_
      rw [List.filter_cons_of_neg (by simp [h])] at he
      exact ih (i + 1) out (by omega) (by omega) he
    · refine ev_neg h (ev_pos (by omega) ?_)
      rw [List.filter_cons_of_pos (by simp [h])] at he
      refine ih (i + 1) (out ++ [x[i]]) (by omega) (by simp; omega) ?_
      rw [List.append_assoc]
      exact he
theorem open_l0 (most now : Int) (hm : 1 ≤ most) : ∀ (n : Nat) (x : List Cl), x.length = n → n < 1099511627776 → x.Pairwise (fun a b => a.f0 < b.f0) →
    ∃ r : List Cl, Ev (fun k => session_Open.l0 k most now x) (r, now, 0) ∧ Ev (fun k => watchmanref18_Open.l0 k most now x) (r, now, 0) ∧ r.length ≤ n + 1 ∧ ∀ c ∈ r, c ∈ x ∨ c = nw now := by
  intro n
  induction n with
  | zero =>
    intro x hx _ _
    refine ⟨x ++ [nw now], ?_, ?_, by rw [List.length_append, hx]; simp, fun c hc => by simpa using hc⟩
    · refine Ev.step (fun k => by rw [session_Open.l0]) ?_
      exact ev_neg (by omega) (ev_pos (by omega) (Ev.now _))
    · refine Ev.step (fun k => by rw [watchmanref18_Open.l0]) ?_
      exact ev_neg (by omega) (ev_pos (by omega) (Ev.now _))
  | succ n ih =>
    intro x hx hn hp
    by_cases hge : (x.length : Int) ≥ most
    · have h0 : 0 < x.length := by omega
      obtain ⟨ho1, ho2⟩ := old_is x h0
      have hf := fnd_of hp ho1
      obtain ⟨i, hi, hix, hio⟩ := ix_some hf
      have hle : (x.eraseIdx i).length = n := by rw [List.length_eraseIdx_of_lt hi]; omega
      obtain ⟨r, e1, e2, e3, e4⟩ := ih (x.eraseIdx i) hle (by omega) (hp.sublist (List.eraseIdx_sublist _ _))
      refine ⟨r, ?_, ?_, by omega, fun c hc => (e4 c hc).imp (fun h => List.mem_of_mem_eraseIdx h) (fun h => h)⟩
      · refine Ev.step (fun k => by rw [session_Open.l0]) ?_
        refine ev_pos hge (ev_pos (by omega) (ev_pos (by omega) ?_))
        refine Ev.bind (old_ev x h0 (by omega)) ?_
        unfold session_place.f
        simp only [Option.bind_some]
        rw [hix]
        refine ev_pos (by omega) (ev_pos (by omega) ?_)
        exact e1
      · refine Ev.step (fun k => by rw [watchmanref18_Open.l0]) ?_
        refine ev_pos hge ?_
        have ho := refoldest_ev x (by omega)
        unfold olr at ho
        rw [dif_pos h0] at ho
        refine Ev.bind ho ?_
        have ef := filter_erase x hp i hi
        rw [hio] at ef
        refine refopen_l1 most now x (old x h0).f0 (by omega) _ ?_ x.length 0 [] (by omega) (by simp) (by simp)
        rw [ef]
        exact e2
    · refine ⟨x ++ [nw now], ?_, ?_, by simp; omega, fun c hc => by simpa using hc⟩
      · refine Ev.step (fun k => by rw [session_Open.l0]) ?_
        exact ev_neg hge (ev_pos (by omega) (Ev.now _))
      · refine Ev.step (fun k => by rw [watchmanref18_Open.l0]) ?_
        exact ev_neg hge (ev_pos (by omega) (Ev.now _))
theorem open_both (l : List Cl) (hs : sml l) (hb : l.length < 1000000) (most now : Int) :
    ∃ r, Ev (fun k => session_Open.f k l most now) r ∧ Ev (fun k => watchmanref18_Open.f k l most now) r ∧ r.1.length ≤ l.length + 1 ∧ ∀ c ∈ r.1, c ∈ l ∨ c = nw now := by
  obtain ⟨b, h1, h1', h2⟩ := is_both l (by omega) hs
  have bad : Ev (fun k => session_Open.j0 k l most now true) (([] : List Cl), 0, 1) := by
    refine Ev.step (fun k => by rw [session_Open.j0]) ?_
    exact ev_pos rfl (Ev.now _)
  have bad' : Ev (fun k => watchmanref18_Open.j0 k l most now true) (([] : List Cl), 0, 1) := by
    refine Ev.step (fun k => by rw [watchmanref18_Open.j0]) ?_
    exact ev_pos rfl (Ev.now _)
  have no : (([] : List Cl), (0 : Int), (1 : Int)).1.length ≤ l.length + 1 ∧ ∀ c ∈ (([] : List Cl), (0 : Int), (1 : Int)).1, c ∈ l ∨ c = nw now := ⟨by simp, by simp⟩
  unfold session_Open.f watchmanref18_Open.f
  cases b with
  | false => exact ⟨_, Ev.bind h1 (ev_neg (by decide) bad), Ev.bind h1' (ev_neg (by decide) bad'), no⟩
  | true =>
    have hw := h2.1 rfl
    by_cases c1 : most < 1
    · exact ⟨_, Ev.bind h1 (ev_pos rfl (ev_pos c1 bad)), Ev.bind h1' (ev_pos rfl (ev_pos c1 bad')), no⟩
    by_cases c2 : most > 30
    · exact ⟨_, Ev.bind h1 (ev_pos rfl (ev_neg c1 (ev_pos c2 bad))), Ev.bind h1' (ev_pos rfl (ev_neg c1 (ev_pos c2 bad'))), no⟩
    by_cases c3 : now < 1
    · exact ⟨_, Ev.bind h1 (ev_pos rfl (ev_neg c1 (ev_neg c2 (ev_pos c3 bad)))), Ev.bind h1' (ev_pos rfl (ev_neg c1 (ev_neg c2 (ev_pos c3 bad')))), no⟩
    by_cases c4 : now > 1000000000
    · exact ⟨_, Ev.bind h1 (ev_pos rfl (ev_neg c1 (ev_neg c2 (ev_neg c3 (ev_pos c4 bad))))), Ev.bind h1' (ev_pos rfl (ev_neg c1 (ev_neg c2 (ev_neg c3 (ev_pos c4 bad'))))), no⟩
    obtain ⟨r, e1, e2, e3, e4⟩ := open_l0 most now (by omega) l.length l rfl (by omega) hw.2.1
    have good : Ev (fun k => session_Open.j0 k l most now false) (r, now, 0) := by
      refine Ev.step (fun k => by rw [session_Open.j0]) ?_
      exact ev_neg (by decide) (Ev.bind (own_ev l hs (by omega)) e1)
    have good' : Ev (fun k => watchmanref18_Open.j0 k l most now false) (r, now, 0) := by
      refine Ev.step (fun k => by rw [watchmanref18_Open.j0]) ?_
      exact ev_neg (by decide) (Ev.bind (refown_ev l hs (by omega)) e2)
    by_cases c5 : (l.length : Int) > 0
    · have h0 : l.length - 1 < l.length := by omega
      have ew : wrap64 ((l.length : Int) - 1) = ((l.length - 1 : Nat) : Int) := by rw [wrm (by omega) (by omega)]; omega
      rw [ew, rdC l (l.length - 1) h0]
      cases c6 : decide (l[l.length - 1].f0 ≥ now) with
      | true => exact ⟨_, Ev.bind h1 (ev_pos rfl (ev_neg c1 (ev_neg c2 (ev_neg c3 (ev_neg c4 (ev_pos c5 (ev_pos (by omega) (ev_pos (by omega) bad)))))))), Ev.bind h1' (ev_pos rfl (ev_neg c1 (ev_neg c2 (ev_neg c3 (ev_neg c4 (ev_pos c5 (ev_pos (by omega) (ev_pos (by omega) bad')))))))), no⟩
      | false => exact ⟨_, Ev.bind h1 (ev_pos rfl (ev_neg c1 (ev_neg c2 (ev_neg c3 (ev_neg c4 (ev_pos c5 (ev_pos (by omega) (ev_pos (by omega) good)))))))), Ev.bind h1' (ev_pos rfl (ev_neg c1 (ev_neg c2 (ev_neg c3 (ev_neg c4 (ev_pos c5 (ev_pos (by omega) (ev_pos (by omega) good')))))))), e3, e4⟩
    · exact ⟨_, Ev.bind h1 (ev_pos rfl (ev_neg c1 (ev_neg c2 (ev_neg c3 (ev_neg c4 (ev_neg c5 good)))))), Ev.bind h1' (ev_pos rfl (ev_neg c1 (ev_neg c2 (ev_neg c3 (ev_neg c4 (ev_neg c5 good')))))), e3, e4⟩
/-! ### put -/
theorem refput_l0 (id req now a n : Int) (s : List ByteArray) (hl : s.length < 8796093022208) (l : List Cl) (hb : l.length < 1000000) (hp : l.Pairwise (fun a b => a.f0 < b.f0)) (i0 : Nat) (hi0 : i0 < l.length) (hid : l[i0].f0 = id) :
    ∀ (d i : Nat) (x : List Cl), i + d = l.length → x = (if i ≤ i0 then l else l.set i0 ⟨id, req, now, ⟨a, n, s⟩⟩) → Ev (fun k => watchmanref18_Put.l0 k id req now x (i : Int) a n s) (l.set i0 ⟨id, req, now, ⟨a, n, s⟩⟩, 0) := by
  intro d
  induction d with
  | zero =>
    intro i x hi hx
    rw [if_neg (by omega)] at hx
    subst hx
    refine Ev.step (fun k => by rw [watchmanref18_Put.l0]) ?_
    exact ev_neg (by rw [List.length_set]; omega) (Ev.now _)
  | succ d ih =>
    intro i x hi hx
    have hxl : x.length = l.length := by rw [hx]; split <;> simp
    have e : ((i + 1 : Nat) : Int) = wrap64 ((i : Int) + 1) := by rw [wr1 (by omega) (by omega)]; rfl
    refine Ev.step (fun k => by rw [watchmanref18_Put.l0]) ?_
    refine ev_pos (by omega) (ev_pos (by omega) ?_)
    rw [rdC x i (by omega), ← e]
    by_cases hii : i = i0
    · subst hii
      rw [if_pos (Nat.le_refl _)] at hx
      subst hx
      refine ev_pos hid ?_
      rw [owna_is _ _ _ hl]
      simp only [Option.bind_some]
      rw [Int.toNat_natCast]
      exact ih (i + 1) _ (by omega) (by rw [if_neg (by omega)])
    · have hne : x[i].f0 ≠ id := by
        have h2 := pw_ne hp i i0 (by omega) hi0 hii
        have h3 : x[i] = l[i] := by
          subst hx
          split
          · rfl
          · rw [List.getElem_set_ne (Ne.symm hii)]
        rw [h3]
        omega
      refine ev_neg hne ?_
      refine ih (i + 1) x (by omega) ?_
      rw [hx]
      by_cases h4 : i ≤ i0
      · rw [if_pos h4, if_pos (by omega)]
      · rw [if_neg h4, if_neg (by omega)]
theorem put_both (l : List Cl) (hs : sml l) (hb : l.length < 1000000) (id req now a n : Int) (s : List ByteArray) (hl : s.length < 8796093022208) :
    ∃ r, Ev (fun k => session_Put.f k l id req now a n s) r ∧ Ev (fun k => watchmanref18_Put.f k l id req now a n s) r ∧ r.1.length ≤ l.length ∧ ∀ c ∈ r.1, c ∈ l ∨ c.f3.f2 = s := by
  obtain ⟨b, h1, h1', h2⟩ := is_both l (by omega) hs
  have bad : Ev (fun k => session_Put.j0 k l id req now true a n s) (([] : List Cl), 1) := by
    refine Ev.step (fun k => by rw [session_Put.j0]) ?_
    exact ev_pos rfl (Ev.now _)
  have bad' : Ev (fun k => watchmanref18_Put.j0 k l id req now true a n s) (([] : List Cl), 1) := by
    refine Ev.step (fun k => by rw [watchmanref18_Put.j0]) ?_
    exact ev_pos rfl (Ev.now _)
  have no : ∀ e : Int, (([] : List Cl), e).1.length ≤ l.length ∧ ∀ c ∈ (([] : List Cl), e).1, c ∈ l ∨ c.f3.f2 = s := fun e => ⟨by simp, by simp⟩
  unfold session_Put.f watchmanref18_Put.f
  cases b with
  | false => exact ⟨_, Ev.bind h1 (ev_neg (by decide) bad), Ev.bind h1' (ev_neg (by decide) bad'), no _⟩
  | true =>
    have hw := h2.1 rfl
    by_cases c1 : now < 0
    · exact ⟨_, Ev.bind h1 (ev_pos rfl (ev_pos c1 bad)), Ev.bind h1' (ev_pos rfl (ev_pos c1 bad')), no _⟩
    by_cases c2 : now > 1000000000
    · exact ⟨_, Ev.bind h1 (ev_pos rfl (ev_neg c1 (ev_pos c2 bad))), Ev.bind h1' (ev_pos rfl (ev_neg c1 (ev_pos c2 bad'))), no _⟩
    by_cases c3 : req > 1000000000
    · exact ⟨_, Ev.bind h1 (ev_pos rfl (ev_neg c1 (ev_neg c2 (ev_pos c3 bad)))), Ev.bind h1' (ev_pos rfl (ev_neg c1 (ev_neg c2 (ev_pos c3 bad')))), no _⟩
    have ha := answer_ev a n s (by omega)
    cases c4 : oka a n s with
    | false =>
      rw [c4] at ha
      refine ⟨_, Ev.bind h1 (ev_pos rfl (ev_neg c1 (ev_neg c2 (ev_neg c3 ?_)))), Ev.bind h1' (ev_pos rfl (ev_neg c1 (ev_neg c2 (ev_neg c3 (Ev.bind ha bad'))))), no _⟩
      rw [may_is, c4]; exact bad
    | true =>
      rw [c4] at ha
      have hck := check_ev l hs id req
      have hck' := refcheck_ev l hs (by omega) id req
      have go : ∀ r, Ev (fun k => session_Put.j0 k l id req now false a n s) r → Ev (fun k => watchmanref18_Put.j0 k l id req now false a n s) r → (r.1.length ≤ l.length ∧ ∀ c ∈ r.1, c ∈ l ∨ c.f3.f2 = s) → ∃ r, Ev (fun k => (session_Is.f k l).bind fun t => if t = true then if now < 0 then session_Put.j0 k l id req now true a n s else if now > 1000000000 then session_Put.j0 k l id req now true a n s else if req > 1000000000 then session_Put.j0 k l id req now true a n s else (session_reply_may.f a n s).bind fun t1 => session_Put.j0 k l id req now (!t1) a n s else session_Put.j0 k l id req now true a n s) r ∧ Ev (fun k => (watchmanref18_Is.f k l).bind fun t => if t = true then if now < 0 then watchmanref18_Put.j0 k l id req now true a n s else if now > 1000000000 then watchmanref18_Put.j0 k l id req now true a n s else if req > 1000000000 then watchmanref18_Put.j0 k l id req now true a n s else (watchmanref18_Answer.f k a n s).bind fun t1 => watchmanref18_Put.j0 k l id req now (!t1) a n s else watchmanref18_Put.j0 k l id req now true a n s) r ∧ r.1.length ≤ l.length ∧ ∀ c ∈ r.1, c ∈ l ∨ c.f3.f2 = s := by
        intro r g1 g2 g3
        refine ⟨r, Ev.bind h1 (ev_pos rfl (ev_neg c1 (ev_neg c2 (ev_neg c3 ?_)))), Ev.bind h1' (ev_pos rfl (ev_neg c1 (ev_neg c2 (ev_neg c3 (Ev.bind ha g2))))), g3⟩
        rw [may_is, c4]; exact g1
      unfold chk at hck hck'
      cases hf : fnd l id with
      | none =>
        rw [hf] at hck hck'
        refine go (([] : List Cl), 181) ?_ ?_ (no _)
        · refine Ev.step (fun k => by rw [session_Put.j0]) ?_
          exact ev_neg (by decide) (Ev.bind hck (ev_pos rfl (Ev.now _)))
        · refine Ev.step (fun k => by rw [watchmanref18_Put.j0]) ?_
          exact ev_neg (by decide) (Ev.bind hck' (ev_pos rfl (Ev.now _)))
      | some c =>
        rw [hf] at hck hck'
        simp only [] at hck hck'
        obtain ⟨i, hi, hix, hic⟩ := ix_some hf
        by_cases d1 : req < 1 ∨ req < c.f1
        · rw [if_pos d1] at hck hck'
          refine go (([] : List Cl), 180) ?_ ?_ (no _)
          · refine Ev.step (fun k => by rw [session_Put.j0]) ?_
            refine ev_neg (by decide) (Ev.bind hck (ev_neg (show ¬ (2 : Int) = 3 by decide) (ev_pos rfl ?_)))
            refine Ev.step (fun k => by rw [session_Put.j1]) ?_
            exact ev_pos (show ((2 : Int) == 2) = true by decide) (Ev.now _)
          · refine Ev.step (fun k => by rw [watchmanref18_Put.j0]) ?_
            exact ev_neg (by decide) (Ev.bind hck' (ev_neg (show ¬ (2 : Int) = 3 by decide) (ev_neg (show ¬ (2 : Int) = 0 by decide) (Ev.now _))))
        · rw [if_neg d1] at hck hck'
          by_cases d2 : req = c.f1
          · rw [if_pos d2] at hck hck'
            refine go (([] : List Cl), 180) ?_ ?_ (no _)
            · refine Ev.step (fun k => by rw [session_Put.j0]) ?_
              refine ev_neg (by decide) (Ev.bind hck (ev_neg (show ¬ (1 : Int) = 3 by decide) (ev_neg (show ¬ (1 : Int) = 2 by decide) ?_)))
              refine Ev.step (fun k => by rw [session_Put.j1]) ?_
              exact ev_pos (show ((1 : Int) == 1) = true by decide) (Ev.now _)
            · refine Ev.step (fun k => by rw [watchmanref18_Put.j0]) ?_
              exact ev_neg (by decide) (Ev.bind hck' (ev_neg (show ¬ (1 : Int) = 3 by decide) (ev_neg (show ¬ (1 : Int) = 0 by decide) (Ev.now _))))
          · rw [if_neg d2] at hck hck'
            refine go (l.set i ⟨id, req, now, ⟨a, n, s⟩⟩, 0) ?_ ?_ ⟨by simp, fun y hy => ?_⟩
            · refine Ev.step (fun k => by rw [session_Put.j0]) ?_
              refine ev_neg (by decide) (Ev.bind hck (ev_neg (show ¬ (0 : Int) = 3 by decide) (ev_neg (show ¬ (0 : Int) = 2 by decide) ?_)))
              refine Ev.step (fun k => by rw [session_Put.j1]) ?_
              refine ev_neg (show ¬ ((0 : Int) == 1) = true by decide) ?_
              refine Ev.bind (own_ev l hs (by omega)) ?_
              unfold session_place.f
              simp only [Option.bind_some]
              rw [hix, told_is _ _ _ _ _ _ hl]
              simp only [Option.bind_some]
              exact ev_pos (by omega) (ev_pos (by omega) (Ev.now _))
            · refine Ev.step (fun k => by rw [watchmanref18_Put.j0]) ?_
              refine ev_neg (by decide) (Ev.bind hck' (ev_neg (show ¬ (0 : Int) = 3 by decide) (ev_pos rfl ?_)))
              refine Ev.bind (refown_ev l hs (by omega)) ?_
              exact refput_l0 id req now a n s hl l hb hw.2.1 i hi (by rw [hic]; exact (fnd_some hf).2) l.length 0 l (by omega) (by rw [if_pos (Nat.zero_le _)])
            · rcases List.mem_or_eq_of_mem_set hy with h | h
              · exact .inl h
              · exact .inr (by rw [h])
/-! ### the same -/
theorem samec_l0 (l : List Cl) (hb : l.length < 1000000) (hs : ∀ c ∈ l, c.f3.f2.length < 1000000) : ∀ (d i : Nat), i + d = l.length → Ev (fun k => watchmanref18_Same.l0 k l l (i : Int)) true := by
  intro d
  induction d with
  | zero =>
    intro i hi
    refine Ev.step (fun k => by rw [watchmanref18_Same.l0]) ?_
    exact ev_neg (by omega) (Ev.now _)
  | succ d ih =>
    intro i hi
    have hi2 : i < l.length := by omega
    have e : ((i + 1 : Nat) : Int) = wrap64 ((i : Int) + 1) := by rw [wr1 (by omega) (by omega)]; rfl
    refine Ev.step (fun k => by rw [watchmanref18_Same.l0]) ?_
    refine ev_pos (by omega) (ev_pos (by omega) (ev_pos (by omega) ?_))
    rw [← e]
    refine ev_pos rfl (ev_pos rfl (ev_pos rfl ?_))
    rw [rdC l i hi2]
    exact Ev.bind (same_ev _ _ _ (by have := hs _ (List.getElem_mem hi2); omega)) (ev_pos rfl (ih (i + 1) (by omega)))
theorem samec_ev (l : List Cl) (hb : l.length < 1000000) (hs : ∀ c ∈ l, c.f3.f2.length < 1000000) : Ev (fun k => watchmanref18_Same.f k l l) true := by
  unfold watchmanref18_Same.f
  exact ev_pos rfl (samec_l0 l hb hs l.length 0 (by omega))
theorem SessionDoes_pure : watchmanlaw18_SessionDoes.Pure := by
  intro l id req now most a n s hl hls _ _ _ _ _ _ hsl _
  have key : ∃ K, ∀ k, K ≤ k → watchmanlaw18_SessionDoes.Holds k l id req now most a n s := by
    have hls2 : ∀ x ∈ l, x.f3.f2.length < 4611686018427387904 := by
      intro x hx
      have := (hls x hx).2.2.2.2.2.1
      omega
    obtain ⟨f0, ⟨K0, g0⟩, h0⟩ := big_ev l (by omega) hls2
    obtain ⟨f1, ⟨K1, g1⟩, h1⟩ := bigA_ev a n s (by omega)
    by_cases e0 : f0 = true
    · subst e0; exact ⟨K0, fun k hk => .inl (g0 k hk)⟩
    replace e0 : f0 = false := by simpa using e0
    subst e0
    by_cases e1 : f1 = true
    · subst e1; exact ⟨K0 + K1, fun k hk => .inr (.inl ⟨g0 k (by omega), g1 k (by omega)⟩)⟩
    replace e1 : f1 = false := by simpa using e1
    subst e1
    obtain ⟨hl5, hl4⟩ := h0 rfl
    have hs4 := h1 rfl
    have hs : sml l := fun c hc => by have := hl4 c hc; omega
    obtain ⟨K2, p2⟩ := refown_ev l hs (by omega)
    obtain ⟨ro, ⟨K3, p3⟩, ⟨K4, p4⟩, ol, om⟩ := open_both l hs (by omega) most now
    obtain ⟨K5, p5⟩ := check_ev l hs id req
    obtain ⟨K6, p6⟩ := refcheck_ev l hs (by omega) id req
    obtain ⟨rp, ⟨K7, p7⟩, ⟨K8, p8⟩, pl, pm⟩ := put_both l hs (by omega) id req now a n s (by omega)
    obtain ⟨K9, p9⟩ := reffind_ev l id hs (by omega)
    obtain ⟨K10, p10⟩ := oldest_ev l (by omega)
    obtain ⟨K11, p11⟩ := refoldest_ev l (by omega)
    have hck : (chk l id req).2.2.1.length ≤ 40 := by
      unfold chk
      cases hf : fnd l id with
      | none => simp
      | some c =>
        simp only []
        split
        · simp
        · split
          · exact hl4 c (fnd_some hf).1
          · simp
    have hfn : (fnr l id).2.2.2.2.2.1.length ≤ 40 := by
      unfold fnr
      cases hf : fnd l id with
      | none => simp
      | some c => exact hl4 c (fnd_some hf).1
    obtain ⟨K12, p12⟩ := samec_ev ro.1 (by omega) (fun c hc => by
      rcases om c hc with h | h
      · have := hl4 c h; omega
      · subst h; simp)
    obtain ⟨K13, p13⟩ := same_ev (chk l id req).1 (chk l id req).2.1 (chk l id req).2.2.1 (by omega)
    obtain ⟨K14, p14⟩ := samec_ev rp.1 (by omega) (fun c hc => by
      rcases pm c hc with h | h
      · have := hl4 c h; omega
      · rw [h]; omega)
    obtain ⟨K15, p15⟩ := samec_ev [(⟨(fnr l id).1, (fnr l id).2.1, (fnr l id).2.2.1, ⟨(fnr l id).2.2.2.1, (fnr l id).2.2.2.2.1, (fnr l id).2.2.2.2.2.1⟩⟩ : Cl)] (by simp) (fun c hc => by rw [List.mem_singleton.1 hc]; show (fnr l id).2.2.2.2.2.1.length < _; omega)
    obtain ⟨b, ⟨K16, p16⟩, ⟨K17, p17⟩, _⟩ := is_both l (by omega) hs
    obtain ⟨K18, p18⟩ := samec_ev l (by omega) (fun c hc => by have := hl4 c hc; omega)
    refine ⟨K0 + K1 + K2 + K3 + K4 + K5 + K6 + K7 + K8 + K9 + K10 + K11 + K12 + K13 + K14 + K15 + K16 + K17 + K18, fun k hk => .inr (.inr ⟨⟨g0 k (by omega), g1 k (by omega)⟩, ?_⟩)⟩
    exact ⟨l, p2 k (by omega), ro.1, ro.2.1, ro.2.2, p3 k (by omega), ro.1, p4 k (by omega), _, _, _, _, p5 k (by omega), _, _, _, p6 k (by omega), rp.1, rp.2, p7 k (by omega), a, n, s, owna_is a n s (by omega), rp.1, p8 k (by omega),
      _, _, _, _, _, _, _, find_is l id hs, _, _, _, _, _, _, p9 k (by omega), _, _, p10 k (by omega), p11 k (by omega), p12 k (by omega), p13 k (by omega), p14 k (by omega), p15 k (by omega), b, p16 k (by omega), p17 k (by omega), p18 k (by omega)⟩
  obtain ⟨K, hK⟩ := key
  refine ⟨K, ?_⟩
  unfold watchmanlaw18_SessionDoes.f
  rw [if_pos (hK K (Nat.le_refl _))]
end Go.Proofs.Ytkhdpmbjjcmooaa.F
