/- The pure statement of BoardPuts: what is put is got; others stay; dropped again, it is as it was without it; the board stays right. -/
import Derived.Test.YtcfpbmdndapeaaaH
import Derived.Test.YtcfpbmdndapeaaaF14
import Derived.Test.YtcfpbmdndapeaaaQBoardPuts
namespace Go.Proofs.Ytcfpbmdndapeaaa.F
open Go.RowKit Go.Proofs.YtcfpbmdndapeaaaV.PrintWords Go.Proofs.YtcfpbmdndapeaaaV.PrintLast
theorem get_yes (m n : Int) (l : List Al) (hp : asc l) (a : Al) (ha : a ∈ l) : board_Get.f m n l a.f0.f0 a.f0.f1 = some (a.f0.f0, a.f0.f1, a.f1, a.f2, a.f3, a.f4, true) := by
  have hix : ∃ i, ∃ hi : i < l.length, ix_Alarm (fun x => decide (x.f0.f0 = a.f0.f0) && decide (x.f0.f1 = a.f0.f1)) l = (i : Int) ∧ l[i] = a := by
    unfold ix_Alarm
    cases e : l.findIdx? (fun x => decide (x.f0.f0 = a.f0.f0) && decide (x.f0.f1 = a.f0.f1)) with
    | none =>
      rw [List.findIdx?_eq_none_iff] at e
      have := e a ha
      simp at this
    | some i =>
      rw [List.findIdx?_eq_some_iff_getElem] at e
      obtain ⟨hi, h1, _⟩ := e
      rw [Bool.and_eq_true, decide_eq_true_iff, decide_eq_true_iff] at h1
      exact ⟨i, hi, rfl, asc_one hp (List.getElem_mem hi) ha (sp_ext h1.1 h1.2)⟩
  obtain ⟨i, hi, h1, h2⟩ := hix
  unfold board_Get.f
  rw [h1, if_neg (by omega), rdA l i hi, h2]
theorem get_no (m n : Int) (l : List Al) (s : Sp) (h : ∀ x ∈ l, x.f0 ≠ s) : board_Get.f m n l s.f0 s.f1 = some (0, 0, 0, 0, 0, 0, false) := by
  have hix : ix_Alarm (fun x => decide (x.f0.f0 = s.f0) && decide (x.f0.f1 = s.f1)) l = -1 := by
    have e : l.findIdx? (fun x => decide (x.f0.f0 = s.f0) && decide (x.f0.f1 = s.f1)) = none := by
      rw [List.findIdx?_eq_none_iff]
      intro x hx
      rw [← Bool.not_eq_true, Bool.and_eq_true, decide_eq_true_iff, decide_eq_true_iff]
      exact fun h2 => h x hx (sp_ext h2.1 h2.2)
    unfold ix_Alarm; rw [e]
  unfold board_Get.f
  rw [hix, if_pos (by decide)]
theorem drop_ev (m n : Int) (l : List Al) (hb : l.length < 100000000) (s : Sp) : ∃ r, Ev (fun k => board_Drop.f k m n l s.f0 s.f1) r ∧
    (IsB m n l → (∃ x ∈ l, x.f0 = s) → ∃ i, At l s i true ∧ r = (m, n, dropL l i, 0)) ∧ (IsB m n l → (¬ ∃ x ∈ l, x.f0 = s) → r.2.2.2 = 80) := by
  obtain ⟨b, h1, h2⟩ := isB_ev m n l (by omega)
  unfold board_Drop.f
  cases b with
  | false => exact ⟨_, Ev.bind h1 (ev_neg (by decide) (Ev.now _)), fun h => absurd (h2.2 h) (by decide), fun h => absurd (h2.2 h) (by decide)⟩
  | true =>
    have hw := h2.1 rfl
    obtain ⟨q, t, f1, f2⟩ := find_ev l s (by omega)
    have hth := f2.there hw.2.2.2.2.2.2
    cases t with
    | true =>
      have hq2 : q < l.length := (f2.2.2.2.1 rfl).1
      refine ⟨(m, n, dropL l q, 0), Ev.bind h1 (ev_pos rfl ?_), fun _ _ => ⟨q, f2, rfl⟩, fun _ h => absurd (hth.1 rfl) h⟩
      unfold board_open.f
      simp only [Option.bind_some]
      refine Ev.bind f1 (ev_pos rfl ?_)
      have hwi := with_ev l [] q 1 (by omega) (by simp) (by omega)
      rw [List.append_nil] at hwi
      exact Ev.bind (a := dropL l q) hwi (Ev.now _)
    | false =>
      refine ⟨(0, 0, [], 80), Ev.bind h1 (ev_pos rfl ?_), fun _ h => absurd (hth.2 h) (by decide), fun _ _ => rfl⟩
      unfold board_open.f
      simp only [Option.bind_some]
      exact Ev.bind f1 (ev_neg (show ¬ (false = true) by decide) (Ev.now _))
theorem BoardPuts_pure : watchmanlaw08_BoardPuts.Pure := by
  intro m n l a0 a1 a2 a3 a4 a5 s0 s1
  intros
  refine Ev.rounds ?_
  unfold watchmanlaw08_BoardPuts.f watchmanlaw08_far.f
  simp only [Option.bind_some]
  by_cases hfar : (l.length : Int) > 60
  · exact ev_pos (decide_eq_true hfar) (Ev.now _)
  · refine ev_neg (by rw [decide_eq_false hfar]; decide) ?_
    let a : Al := ⟨⟨a0, a1⟩, a2, a3, a4, a5⟩
    let s : Sp := ⟨s0, s1⟩
    obtain ⟨r, r1, r2⟩ := put_ev m n l (by omega) a
    refine Ev.bind r1 ?_
    by_cases h0 : r.2.2.2 = 0
    · refine ev_pos h0 ?_
      obtain ⟨hw, hA, hs3, i, t, hat, hroom, e1, e2, e3⟩ := r2.1 h0
      have hasc := hw.2.2.2.2.2.2
      have hwc := put_isB hw hA hs3 hat hroom
      have hmem := put_mem hat hasc
      rw [e1, e2, e3]
      have hlen : (putL l a i t).length < 100000000 := by rw [put_len hat]; split <;> omega
      have haL : a ∈ putL l a i t := (hmem a).2 (.inl rfl)
      have g1 : board_Get.f m n (putL l a i t) a0 a1 = some (a0, a1, a2, a3, a4, a5, true) := get_yes m n _ hwc.2.2.2.2.2.2 a haL
      obtain ⟨d, d1, d2, _⟩ := drop_ev m n (putL l a i t) hlen a.f0
      obtain ⟨j, hj, hd⟩ := d2 hwc ⟨a, haL, rfl⟩
      obtain ⟨z, z1, z2, z3⟩ := drop_ev m n l (by omega) a.f0
      have hdm : ∀ x, x ∈ dropL (putL l a i t) j ↔ x ∈ l ∧ x.f0 ≠ a.f0 := by
        intro x
        rw [drop_mem hj hwc.2.2.2.2.2.2, hmem]
        constructor
        · rintro ⟨h1 | h1, h2⟩
          · rw [h1] at h2; exact absurd rfl h2
          · exact h1
        · rintro ⟨h1, h2⟩; exact ⟨.inr ⟨h1, h2⟩, h2⟩
      have hda : asc (dropL (putL l a i t) j) := hwc.2.2.2.2.2.2.sublist (drop_sub _ _)
      have hwd : IsB m n (dropL (putL l a i t) j) := ⟨hwc.1, hwc.2.1, hwc.2.2.1, hwc.2.2.2.1, by have := (drop_sub (putL l a i t) j).length_le; have := hwc.2.2.2.2.1; omega, fun x hx => hwc.2.2.2.2.2.1 x ((drop_sub _ _).subset hx), hda⟩
      have isY : ∀ (q : List Al), IsB m n q → q.length < 100000000 → Ev (fun k => board_Is.f k m n q) true := by
        intro q hq hq2
        obtain ⟨b, b1, b2⟩ := isB_ev m n q (by omega)
        rw [b2.2 hq] at b1; exact b1
      have hdl : (dropL (putL l a i t) j).length < 100000000 := by have := (drop_sub (putL l a i t) j).length_le; omega
      have ic := isY _ hwc hlen
      have id := isY _ hwd hdl
      -- what is got at another spot
      have hget : ∃ q : Int × Int × Int × Int × Int × Int × Bool, board_Get.f m n l s0 s1 = some q ∧ ∃ p : Int × Int × Int × Int × Int × Int × Bool, board_Get.f m n (putL l a i t) s0 s1 = some p ∧ (¬ (s0 = a0 ∧ s1 = a1) → p = q) := by
        by_cases hex : ∃ x ∈ l, x.f0 = s
        · obtain ⟨x, hx, ex⟩ := hex
          have k1 := get_yes m n l hasc x hx
          rw [ex] at k1
          by_cases hsa : s0 = a0 ∧ s1 = a1
          · have k2 := get_yes m n _ hwc.2.2.2.2.2.2 a haL
            refine ⟨_, k1, _, by rw [hsa.1, hsa.2]; exact k2, fun h => absurd hsa h⟩
          · have hne : x.f0 ≠ a.f0 := fun h => hsa (by rw [ex] at h; injection h with h1 h2; exact ⟨h1, h2⟩)
            have k2 := get_yes m n _ hwc.2.2.2.2.2.2 x ((hmem x).2 (.inr ⟨hx, hne⟩))
            rw [ex] at k2
            exact ⟨_, k1, _, k2, fun _ => rfl⟩
        · have k1 := get_no m n l s (fun x hx h => hex ⟨x, hx, h⟩)
          by_cases hsa : s0 = a0 ∧ s1 = a1
          · have k2 := get_yes m n _ hwc.2.2.2.2.2.2 a haL
            refine ⟨_, k1, _, by rw [hsa.1, hsa.2]; exact k2, fun h => absurd hsa h⟩
          · have k2 := get_no m n (putL l a i t) s (fun x hx h => by
              rcases (hmem x).1 hx with rfl | ⟨h1, _⟩
              · exact hsa (by injection h with h1 h2; exact ⟨h1.symm, h2.symm⟩)
              · exact hex ⟨x, h1, h⟩)
            exact ⟨_, k1, _, k2, fun _ => rfl⟩
      obtain ⟨q, hq, p, hp, hpq⟩ := hget
      rw [g1, hq, hp]
      simp only [Option.bind_some]
      refine Ev.bind d1 (Ev.bind z1 ?_)
      rw [hd]
      have fin : Ev (fun k => watchmanlaw08_BoardPuts.j0 k z.2.2.2 false m n l m n (dropL (putL l a i t) j) z.1 z.2.1 z.2.2.1) true := by
        refine Ev.step (fun k => by rw [watchmanlaw08_BoardPuts.j0]) ?_
        refine ev_neg (by decide) ?_
        by_cases hex : ∃ x ∈ l, x.f0 = a.f0
        · obtain ⟨i2, hi2, hz⟩ := z2 hw hex
          rw [hz]
          refine ev_pos rfl (Ev.bind boards_ev (ev_pos rfl ?_))
          have heq : dropL (putL l a i t) j = dropL l i2 := asc_ext hda (hasc.sublist (drop_sub _ _)) (fun x => by rw [hdm, drop_mem hi2 hasc])
          rw [heq]
          exact Ev.bind (same_ev m n _ (by have := (drop_sub l i2).length_le; omega)) (Ev.now _)
        · have hz := z3 hw hex
          refine ev_neg (by omega) (Ev.bind boards_ev (ev_pos rfl (ev_pos hz ?_)))
          have heq : dropL (putL l a i t) j = l := asc_ext hda hasc (fun x => by rw [hdm]; exact ⟨fun h => h.1, fun h => ⟨h, fun e => hex ⟨x, h, e⟩⟩⟩)
          rw [heq]
          exact Ev.bind (same_ev m n l (by omega)) (Ev.now _)
      have tail : Ev (fun k => (board_Is.f k m n (putL l a i t)).bind fun t497 => (if t497 = true then ((board_Is.f k m n (dropL (putL l a i t) j)).bind fun t498 => (watchmanlaw08_BoardPuts.j0 k z.2.2.2 (!t498) m n l m n (dropL (putL l a i t) j) z.1 z.2.1 z.2.2.1)) else (none))) true :=
        Ev.bind ic (ev_pos rfl (Ev.bind id fin))
      refine ev_pos (by simp) (ev_neg (by simp) ?_)
      by_cases hsa : s0 = a0 ∧ s1 = a1
      · refine ev_neg (by simp [hsa]) (ev_pos rfl tail)
      · refine ev_pos (by simp; omega) ?_
        rw [hpq hsa]
        exact ev_neg (by simp) (ev_neg (by simp) (ev_pos rfl tail))
    · refine ev_neg h0 (Ev.bind boards_ev (ev_pos rfl ?_))
      rw [(r2.2 h0).2.2.1]
      exact Ev.now _
end Go.Proofs.Ytcfpbmdndapeaaa.F
