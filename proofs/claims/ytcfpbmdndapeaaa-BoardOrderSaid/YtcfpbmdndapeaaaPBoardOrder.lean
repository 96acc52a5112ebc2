/- The pure statement of BoardOrder: two alarms of unlike spots may be put in any order, if there is room for both. -/
import Derived.Test.YtcfpbmdndapeaaaH
import Derived.Test.YtcfpbmdndapeaaaQBoardOrder
namespace Go.Proofs.Ytcfpbmdndapeaaa.F
open Go.RowKit Go.Proofs.YtcfpbmdndapeaaaV.PrintWords Go.Proofs.YtcfpbmdndapeaaaV.PrintLast
/-- One more, if no alarm of the spot is there. -/
def has (l : List Al) (s : Sp) : Bool := l.any (fun x => x.f0.f0 == s.f0 && x.f0.f1 == s.f1)
theorem has_iff (l : List Al) (s : Sp) : has l s = true ↔ ∃ x ∈ l, x.f0 = s := by
  unfold has
  rw [List.any_eq_true]
  constructor
  · rintro ⟨x, h1, h2⟩
    rw [Bool.and_eq_true, beq_iff_eq, beq_iff_eq] at h2
    exact ⟨x, h1, sp_ext h2.1 h2.2⟩
  · rintro ⟨x, h1, rfl⟩
    exact ⟨x, h1, by simp⟩
def nu (l : List Al) (s : Sp) : Nat := if has l s = true then 0 else 1
theorem nu_yes {l : List Al} {s : Sp} (h : ∃ x ∈ l, x.f0 = s) : nu l s = 0 := if_pos ((has_iff l s).2 h)
theorem nu_no {l : List Al} {s : Sp} (h : ¬ ∃ x ∈ l, x.f0 = s) : nu l s = 1 := if_neg (fun h2 => h ((has_iff l s).1 h2))
/-- What two puts one behind the other come to. -/
theorem two_puts {m n : Int} {l : List Al} {a b : Al} {r s : Int × Int × List Al × Int} (hr : PutIs m n l a r) (hs : PutIs r.1 r.2.1 r.2.2.1 b s) (hab : a.f0 ≠ b.f0) :
    ((r.2.2.2 = 0 ∧ s.2.2.2 = 0) → IsB m n l ∧ isA a ∧ isA b ∧ a.f3 ≤ n ∧ b.f3 ≤ n ∧ s.1 = m ∧ s.2.1 = n ∧ asc s.2.2.1 ∧ (s.2.2.1.length : Int) ≤ m ∧
      (∀ x, x ∈ s.2.2.1 ↔ x = a ∨ x = b ∨ (x ∈ l ∧ x.f0 ≠ a.f0 ∧ x.f0 ≠ b.f0)) ∧ (s.2.2.1.length = l.length + nu l a.f0 + nu l b.f0)) ∧
    (¬ (r.2.2.2 = 0 ∧ s.2.2.2 = 0) → IsB m n l → isA a → isA b → a.f3 ≤ n → b.f3 ≤ n → (l.length : Int) + nu l a.f0 + nu l b.f0 > m) := by
  have step : r.2.2.2 = 0 → IsB m n l ∧ isA a ∧ a.f3 ≤ n ∧ r.1 = m ∧ r.2.1 = n ∧ IsB m n r.2.2.1 ∧ (∀ x, x ∈ r.2.2.1 ↔ x = a ∨ (x ∈ l ∧ x.f0 ≠ a.f0)) ∧ r.2.2.1.length = l.length + nu l a.f0 := by
    intro h0
    obtain ⟨hw, hA, hs3, i, t, hat, hroom, e1, e2, e3⟩ := hr.1 h0
    refine ⟨hw, hA, hs3, e1, e2, by rw [e3]; exact put_isB hw hA hs3 hat hroom, fun x => by rw [e3]; exact put_mem hat hw.2.2.2.2.2.2 x, ?_⟩
    rw [e3, put_len hat]
    have hth := hat.there hw.2.2.2.2.2.2
    cases t with
    | true => rw [nu_yes (hth.1 rfl)]; rfl
    | false => rw [nu_no (fun h => by have := hth.2 h; cases this)]; rfl
  have there_b : r.2.2.2 = 0 → ((∃ x ∈ r.2.2.1, x.f0 = b.f0) ↔ ∃ x ∈ l, x.f0 = b.f0) := by
    intro h0
    obtain ⟨_, _, _, _, _, _, hm, _⟩ := step h0
    constructor
    · rintro ⟨x, hx, e⟩
      rcases (hm x).1 hx with rfl | ⟨h1, _⟩
      · exact absurd e hab
      · exact ⟨x, h1, e⟩
    · rintro ⟨x, hx, e⟩
      exact ⟨x, (hm x).2 (.inr ⟨hx, by rw [e]; exact fun h => hab h.symm⟩), e⟩
  constructor
  · rintro ⟨h0, h1⟩
    obtain ⟨hw, hA, hs3, e1, e2, hw2, hm, hlen⟩ := step h0
    rw [e1, e2] at hs
    obtain ⟨_, hB, hb3, i, t, hat, hroom, f1, f2, f3⟩ := hs.1 h1
    have hw3 := put_isB hw2 hB hb3 hat hroom
    refine ⟨hw, hA, hB, hs3, hb3, f1, f2, by rw [f3]; exact hw3.2.2.2.2.2.2, by rw [f3]; exact hw3.2.2.2.2.1, fun x => ?_, ?_⟩
    · rw [f3, put_mem hat hw2.2.2.2.2.2.2, hm]
      constructor
      · rintro (rfl | ⟨rfl | ⟨h2, h3⟩, h4⟩)
        · exact .inr (.inl rfl)
        · exact .inl rfl
        · exact .inr (.inr ⟨h2, h3, h4⟩)
      · rintro (rfl | rfl | ⟨h2, h3, h4⟩)
        · exact .inr ⟨.inl rfl, hab⟩
        · exact .inl rfl
        · exact .inr ⟨.inr ⟨h2, h3⟩, h4⟩
    · rw [f3, put_len hat, hlen]
      have hth := (hat.there hw2.2.2.2.2.2.2).trans (there_b h0)
      cases t with
      | true => rw [show nu l b.f0 = 0 from nu_yes (hth.1 rfl)]; rfl
      | false => rw [show nu l b.f0 = 1 from nu_no (fun h => by have := hth.2 h; cases this)]; rfl
  · intro hn hw hA hB ha hb
    by_cases h0 : r.2.2.2 = 0
    · obtain ⟨_, _, hs3, e1, e2, hw2, hm, hlen⟩ := step h0
      rw [e1, e2] at hs
      have h1 : s.2.2.2 ≠ 0 := fun h => hn ⟨h0, h⟩
      have h2 := (hs.2 h1).2.2.2
      have h3 : ¬ ((∃ x ∈ r.2.2.1, x.f0 = b.f0) ∨ (r.2.2.1.length : Int) < m) := fun h => h2 ⟨hw2, hB, hb, h⟩
      have h4 : ¬ ∃ x ∈ l, x.f0 = b.f0 := fun h => h3 (.inl ((there_b h0).2 h))
      have h5 : ¬ (r.2.2.1.length : Int) < m := fun h => h3 (.inr h)
      rw [nu_no h4]
      omega
    · have h2 := (hr.2 h0).2.2.2
      have h3 : ¬ ((∃ x ∈ l, x.f0 = a.f0) ∨ (l.length : Int) < m) := fun h => h2 ⟨hw, hA, ha, h⟩
      have h4 : ¬ ∃ x ∈ l, x.f0 = a.f0 := fun h => h3 (.inl h)
      have h5 : ¬ (l.length : Int) < m := fun h => h3 (.inr h)
      rw [nu_no h4]
      omega
theorem BoardOrder_pure : watchmanlaw08_BoardOrder.Pure := by
  intro m n l x0 x1 x2 x3 x4 x5 y0 y1 y2 y3 y4 y5
  intros
  refine Ev.rounds ?_
  unfold watchmanlaw08_BoardOrder.f watchmanlaw08_far.f
  have hyes : Ev (fun k => watchmanlaw08_BoardOrder.j0 k true m n l x0 x1 x2 x3 x4 x5 y0 y1 y2 y3 y4 y5) true := by
    refine Ev.step (fun k => by rw [watchmanlaw08_BoardOrder.j0]) ?_
    exact ev_pos rfl (Ev.now _)
  simp only [Option.bind_some]
  by_cases hfar : (l.length : Int) > 60
  · exact ev_pos (decide_eq_true hfar) hyes
  · refine ev_neg (by rw [decide_eq_false hfar]; decide) ?_
    by_cases hs : x0 = y0 ∧ x1 = y1
    · rw [show (x0 == y0 && (x1 == y1)) = true by rw [Bool.and_eq_true, beq_iff_eq, beq_iff_eq]; exact hs]
      exact hyes
    · rw [show (x0 == y0 && (x1 == y1)) = false by rw [← Bool.not_eq_true, Bool.and_eq_true, beq_iff_eq, beq_iff_eq]; exact hs]
      let a : Al := ⟨⟨x0, x1⟩, x2, x3, x4, x5⟩
      let b : Al := ⟨⟨y0, y1⟩, y2, y3, y4, y5⟩
      have hab : a.f0 ≠ b.f0 := fun h => hs (by injection h with h1 h2; exact ⟨h1, h2⟩)
      obtain ⟨r, r1, r2⟩ := put_ev m n l (by omega) a
      obtain ⟨u, u1, u2⟩ := put_ev m n l (by omega) b
      have small : ∀ {z : Al} {q : Int × Int × List Al × Int}, PutIs m n l z q → q.2.2.1.length < 100000000 := by
        intro z q hq
        by_cases h0 : q.2.2.2 = 0
        · obtain ⟨hw, _, _, i, t, hat, _, _, _, e⟩ := hq.1 h0
          rw [e, put_len hat]; split <;> omega
        · rw [(hq.2 h0).2.2.1]; simp
      obtain ⟨s, s1, s2⟩ := put_ev r.1 r.2.1 r.2.2.1 (small r2) b
      obtain ⟨v, v1, v2⟩ := put_ev u.1 u.2.1 u.2.2.1 (small u2) a
      obtain ⟨p1, p2⟩ := two_puts r2 s2 hab
      obtain ⟨q1, q2⟩ := two_puts u2 v2 (fun h => hab h.symm)
      refine Ev.step (fun k => by rw [watchmanlaw08_BoardOrder.j0]) ?_
      refine ev_neg (by decide) ?_
      refine Ev.bind r1 (Ev.bind s1 (Ev.bind u1 (Ev.bind v1 ?_)))
      have bad : ¬ (u.2.2.2 = 0 ∧ v.2.2.2 = 0) → Ev (fun k => watchmanlaw08_BoardOrder.j1 k u.2.2.2 v.2.2.2 true s.1 s.2.1 s.2.2.1 v.1 v.2.1 v.2.2.1) true := by
        intro h
        refine Ev.step (fun k => by rw [watchmanlaw08_BoardOrder.j1]) ?_
        refine ev_pos rfl (Ev.bind boards_ev (ev_pos rfl ?_))
        by_cases h0 : u.2.2.2 = 0
        · refine ev_pos h0 ?_
          rw [show (v.2.2.2 != 0) = true from by rw [bne_iff_ne]; exact fun h1 => h ⟨h0, h1⟩]
          exact Ev.now _
        · exact ev_neg h0 (Ev.now _)
      by_cases hok : r.2.2.2 = 0 ∧ s.2.2.2 = 0
      · refine ev_pos hok.1 ?_
        rw [show (s.2.2.2 != 0) = false from by rw [hok.2]; rfl]
        obtain ⟨hw, hA, hB, ha3, hb3, e1, e2, hasc, hlen, hmem, hl2⟩ := p1 hok
        have hok2 : u.2.2.2 = 0 ∧ v.2.2.2 = 0 := by
          refine Classical.byContradiction fun h => ?_
          have h1 := q2 h hw hB hA hb3 ha3
          omega
        obtain ⟨_, _, _, _, _, f1, f2, gasc, _, gmem, _⟩ := q1 hok2
        have heq : v.2.2.1 = s.2.2.1 := asc_ext gasc hasc (fun x => by
          rw [gmem, hmem]
          constructor
          · rintro (h | h | ⟨h1, h2, h3⟩)
            · exact .inr (.inl h)
            · exact .inl h
            · exact .inr (.inr ⟨h1, h3, h2⟩)
          · rintro (h | h | ⟨h1, h2, h3⟩)
            · exact .inr (.inl h)
            · exact .inl h
            · exact .inr (.inr ⟨h1, h3, h2⟩))
        refine Ev.step (fun k => by rw [watchmanlaw08_BoardOrder.j1]) ?_
        refine ev_neg (by decide) (Ev.bind boards_ev (ev_pos rfl (ev_pos hok2.1 (ev_pos hok2.2 ?_))))
        rw [e1, e2, f1, f2, heq]
        have := hw.2.1
        exact Ev.bind (same_ev m n s.2.2.1 (by omega)) (Ev.now _)
      · have hbad : ¬ (u.2.2.2 = 0 ∧ v.2.2.2 = 0) := by
          intro h
          obtain ⟨hw, hB, hA, hb3, ha3, _, _, _, hlen, _, hl2⟩ := q1 h
          have h1 := p2 hok hw hA hB ha3 hb3
          omega
        by_cases h0 : r.2.2.2 = 0
        · refine ev_pos h0 ?_
          rw [show (s.2.2.2 != 0) = true from by rw [bne_iff_ne]; exact fun h1 => hok ⟨h0, h1⟩]
          exact bad hbad
        · exact ev_neg h0 (bad hbad)
end Go.Proofs.Ytcfpbmdndapeaaa.F
