/- What Open leaves: chapter 18. The clients that stay, one that is new, and that one that goes was used no later than any that stays. No condition but sizes. -/
import Derived.Test.YtkhdpmbjjcmooaaF11
import Derived.Test.YtkhdpmbjjcmooaaT
set_option linter.unusedSimpArgs false
namespace Go.Proofs.Ytkhdpmbjjcmooaa.F
open Go.RowKit Go.Proofs.YtkhdpmbjjcmooaaV.PrintWords Go.Proofs.YtkhdpmbjjcmooaaV.PrintLast
abbrev nw (now : Int) : Cl := ⟨now, 0, now, ⟨0, 0, []⟩⟩
theorem pw_ne {l : List Cl} (hp : l.Pairwise (fun a b => a.f0 < b.f0)) (i j : Nat) (hi : i < l.length) (hj : j < l.length) (h : i ≠ j) : l[i].f0 ≠ l[j].f0 := by
  rw [List.pairwise_iff_getElem] at hp
  rcases Nat.lt_or_ge i j with h2 | h2
  · have := hp i j hi hj h2; omega
  · have := hp j i hj hi (by omega); omega
theorem open_l0 (most now : Int) (hm : 1 ≤ most) : ∀ (n : Nat) (x : List Cl), x.length = n → n < 1099511627776 → x.Pairwise (fun a b => a.f0 < b.f0) →
    ∃ l' : List Cl, Ev (fun k => session_Open.l0 k most now x) (l' ++ [nw now], now, 0) ∧ l'.Sublist x ∧ ((x.length : Int) < most → l' = x) ∧ ((x.length : Int) ≥ most → (l'.length : Int) = most - 1) ∧
      (∀ c ∈ x, c ∉ l' → ∀ y ∈ l', c.f2 ≤ y.f2) ∧ (∀ h : 0 < x.length, (x.length : Int) ≥ most → ∀ y ∈ l', y.f0 ≠ (old x h).f0) := by
  intro n
  induction n with
  | zero =>
    intro x hx _ _
    refine ⟨x, ?_, List.Sublist.refl _, fun _ => rfl, fun h => by omega, fun c h1 h2 => absurd h1 h2, fun h => by omega⟩
    refine Ev.step (fun k => by rw [session_Open.l0]) ?_
    refine ev_neg (by omega) ?_
    exact ev_pos (by omega) (Ev.now _)
  | succ n ih =>
    intro x hx hn hp
    by_cases hge : (x.length : Int) ≥ most
    · have h0 : 0 < x.length := by omega
      obtain ⟨ho1, ho2⟩ := old_is x h0
      have hf := fnd_of hp ho1
      obtain ⟨i, hi, hix, hio⟩ := ix_some hf
      have hle : (x.eraseIdx i).length = n := by rw [List.length_eraseIdx_of_lt hi]; omega
      obtain ⟨l', e1, e2, e3, e4, e5, e6⟩ := ih (x.eraseIdx i) hle (by omega) (hp.sublist (List.eraseIdx_sublist _ _))
      have esub : ∀ y ∈ l', y ∈ x := fun y hy => List.mem_of_mem_eraseIdx (e2.subset hy)
      refine ⟨l', ?_, e2.trans (List.eraseIdx_sublist _ _), fun h => by omega, fun _ => ?_, fun c hc hcl y hy => ?_, fun h hg y hy => ?_⟩
      · refine Ev.step (fun k => by rw [session_Open.l0]) ?_
        refine ev_pos hge (ev_pos (by omega) (ev_pos (by omega) ?_))
        refine Ev.bind (old_ev x h0 (by omega)) ?_
        unfold session_place.f
        simp only [Option.bind_some]
        rw [hix]
        refine ev_pos (by omega) (ev_pos (by omega) ?_)
        exact e1
      · by_cases h2 : (n : Int) ≥ most
        · exact e4 (by rw [hle]; exact h2)
        · rw [e3 (by rw [hle]; omega), hle]; omega
      · by_cases hce : c ∈ x.eraseIdx i
        · exact e5 c hce hcl y hy
        · obtain ⟨j, hj, rfl⟩ := List.mem_iff_getElem.1 hc
          have e : j = i := by
            by_cases e : j = i
            · exact e
            · exact absurd (List.mem_eraseIdx_iff_getElem.2 ⟨j, hj, e, rfl⟩) hce
          subst e
          rw [hio]
          have := ho2 y (esub y hy)
          unfold older at this
          omega
      · obtain ⟨j, hj, hji, rfl⟩ := List.mem_eraseIdx_iff_getElem.1 (e2.subset hy)
        rw [← hio]
        exact pw_ne hp j i hj hi hji
    · refine ⟨x, ?_, List.Sublist.refl _, fun _ => rfl, fun h => absurd h hge, fun c h1 h2 => absurd h1 h2, fun _ h => absurd h hge⟩
      refine Ev.step (fun k => by rw [session_Open.l0]) ?_
      refine ev_neg hge ?_
      exact ev_pos (by omega) (Ev.now _)
/-- What Open answers. -/
def OpenIs (l : List Cl) (most now : Int) (r : List Cl × Int × Int) : Prop :=
  (r.2.2 = 0 ∨ (r.1 = [] ∧ r.2.1 = 0)) ∧ (r.2.2 = 0 → isW l ∧ 1 ≤ most ∧ most ≤ 30 ∧ 1 ≤ now ∧ now ≤ 1000000000 ∧ (∀ c ∈ l, c.f0 < now) ∧ r.2.1 = now ∧
    ∃ l' : List Cl, r.1 = l' ++ [nw now] ∧ l'.Sublist l ∧ ((l.length : Int) < most → l' = l) ∧ ((l.length : Int) ≥ most → (l'.length : Int) = most - 1) ∧
      (∀ c ∈ l, c ∉ l' → ∀ y ∈ l', c.f2 ≤ y.f2) ∧ (∀ h : 0 < l.length, (l.length : Int) ≥ most → ∀ y ∈ l', y.f0 ≠ (old l h).f0))
theorem open_ev (l : List Cl) (hs : sml l) (hb : l.length < 1099511627776) (most now : Int) : ∃ r, Ev (fun k => session_Open.f k l most now) r ∧ OpenIs l most now r := by
  obtain ⟨b, h1, h2⟩ := is_ev l (by omega)
  have bad : Ev (fun k => session_Open.j0 k l most now true) (([] : List Cl), 0, 1) := by
    refine Ev.step (fun k => by rw [session_Open.j0]) ?_
    exact ev_pos rfl (Ev.now _)
  have no : OpenIs l most now (([] : List Cl), 0, 1) := ⟨.inr ⟨rfl, rfl⟩, fun h => by cases h⟩
  unfold session_Open.f
  cases b with
  | false => exact ⟨_, Ev.bind h1 (ev_neg (by decide) bad), no⟩
  | true =>
    have hw := h2.1 rfl
    by_cases c1 : most < 1
    · exact ⟨_, Ev.bind h1 (ev_pos rfl (ev_pos c1 bad)), no⟩
    by_cases c2 : most > 30
    · exact ⟨_, Ev.bind h1 (ev_pos rfl (ev_neg c1 (ev_pos c2 bad))), no⟩
    by_cases c3 : now < 1
    · exact ⟨_, Ev.bind h1 (ev_pos rfl (ev_neg c1 (ev_neg c2 (ev_pos c3 bad)))), no⟩
    by_cases c4 : now > 1000000000
    · exact ⟨_, Ev.bind h1 (ev_pos rfl (ev_neg c1 (ev_neg c2 (ev_neg c3 (ev_pos c4 bad))))), no⟩
    obtain ⟨l', e1, e2, e3, e4, e5, e6⟩ := open_l0 most now (by omega) l.length l rfl hb hw.2.1
    have good : Ev (fun k => session_Open.j0 k l most now false) (l' ++ [nw now], now, 0) := by
      refine Ev.step (fun k => by rw [session_Open.j0]) ?_
      refine ev_neg (by decide) ?_
      exact Ev.bind (own_ev l hs (by omega)) e1
    have yes : (∀ c ∈ l, c.f0 < now) → OpenIs l most now (l' ++ [nw now], now, 0) := fun hl => ⟨.inl rfl, fun _ => ⟨hw, by omega, by omega, by omega, by omega, hl, rfl, l', rfl, e2, e3, e4, e5, e6⟩⟩
    by_cases c5 : (l.length : Int) > 0
    · have h0 : l.length - 1 < l.length := by omega
      have ew : wrap64 ((l.length : Int) - 1) = ((l.length - 1 : Nat) : Int) := by rw [wrm (by omega) (by omega)]; omega
      rw [ew, rdC l (l.length - 1) h0]
      by_cases c6 : l[l.length - 1].f0 ≥ now
      · refine ⟨_, Ev.bind h1 (ev_pos rfl (ev_neg c1 (ev_neg c2 (ev_neg c3 (ev_neg c4 (ev_pos c5 (ev_pos (by omega) (ev_pos (by omega) ?_)))))))), no⟩
        rw [decide_eq_true c6]; exact bad
      · refine ⟨_, Ev.bind h1 (ev_pos rfl (ev_neg c1 (ev_neg c2 (ev_neg c3 (ev_neg c4 (ev_pos c5 (ev_pos (by omega) (ev_pos (by omega) ?_)))))))), yes (fun c hc => ?_)⟩
        · rw [decide_eq_false c6]; exact good
        · obtain ⟨j, hj, rfl⟩ := List.mem_iff_getElem.1 hc
          have hp := hw.2.1
          rw [List.pairwise_iff_getElem] at hp
          rcases Nat.lt_or_ge j (l.length - 1) with h3 | h3
          · have := hp j (l.length - 1) hj h0 h3; omega
          · have e : j = l.length - 1 := by omega
            subst e; omega
    · refine ⟨_, Ev.bind h1 (ev_pos rfl (ev_neg c1 (ev_neg c2 (ev_neg c3 (ev_neg c4 (ev_neg c5 good)))))), yes (fun c hc => ?_)⟩
      have : l = [] := List.eq_nil_of_length_eq_zero (by omega)
      rw [this] at hc; simp at hc
theorem okc_nw (now : Int) (h : 1 ≤ now) (h' : now ≤ 1000000000) : okc (nw now) = true := (okc_iff _).2 ⟨⟨h, h', (show (0 : Int) ≤ 0 by decide), (show (0 : Int) ≤ 1000000000 by decide), by show (0 : Int) ≤ now; omega, h'⟩, oka_nil⟩
theorem open_isW {l : List Cl} {most now : Int} {r : List Cl × Int × Int} (h : OpenIs l most now r) (h0 : r.2.2 = 0) : isW r.1 := by
  obtain ⟨hw, m1, m2, n1, n2, hl, _, l', hr, hs, g1, g2, _, _⟩ := h.2 h0
  rw [hr]
  refine ⟨fun c hc => ?_, List.pairwise_append.2 ⟨hw.2.1.sublist hs, by simp, fun a ha b hb => ?_⟩, ?_⟩
  · rcases List.mem_append.1 hc with hc | hc
    · exact hw.1 c (hs.subset hc)
    · rw [List.mem_singleton.1 hc]; exact okc_nw now n1 n2
  · rw [List.mem_singleton.1 hb]; exact hl a (hs.subset ha)
  · rw [List.length_append, List.length_singleton]
    by_cases hc : (l.length : Int) < most
    · rw [g1 hc]; omega
    · have := g2 (by omega); omega
theorem open_sml {l : List Cl} {most now : Int} {r : List Cl × Int × Int} (h : OpenIs l most now r) (hs : sml l) : sml r.1 := by
  rcases h.1 with h0 | h0
  · obtain ⟨_, _, _, _, _, _, _, l', hr, hsub, _⟩ := h.2 h0
    rw [hr]
    intro c hc
    rcases List.mem_append.1 hc with hc | hc
    · exact hs c (hsub.subset hc)
    · rw [List.mem_singleton.1 hc]; exact (show 0 < 8796093022208 by decide)
  · rw [h0.1]; intro c hc; simp at hc
/-! ### what Put leaves -/
theorem put_pw {l : List Cl} (hp : l.Pairwise (fun a b => a.f0 < b.f0)) (i : Nat) (hi : i < l.length) (c : Cl) (hc : c.f0 = l[i].f0) : (l.set i c).Pairwise (fun a b => a.f0 < b.f0) := by
  rw [List.pairwise_iff_getElem] at hp ⊢
  intro a b ha hb hab
  have ha2 : a < l.length := by rwa [List.length_set] at ha
  have hb2 : b < l.length := by rwa [List.length_set] at hb
  have key : ∀ j (hj : j < l.length) (hj2 : j < (l.set i c).length), (l.set i c)[j].f0 = l[j].f0 := by
    intro j hj hj2
    rw [List.getElem_set]
    split
    · rename_i e; subst e; exact hc
    · rfl
  rw [key a ha2 ha, key b hb2 hb]
  exact hp a b ha2 hb2 hab
theorem put_isW {l : List Cl} (hw : isW l) (i : Nat) (hi : i < l.length) (c : Cl) (hc : c.f0 = l[i].f0) (h : okc c = true) : isW (l.set i c) := by
  refine ⟨fun x hx => ?_, put_pw hw.2.1 i hi c hc, by rw [List.length_set]; exact hw.2.2⟩
  rcases List.mem_or_eq_of_mem_set hx with hx | rfl
  · exact hw.1 x hx
  · exact h
theorem put_fnd {l : List Cl} (hp : l.Pairwise (fun a b => a.f0 < b.f0)) (i : Nat) (hi : i < l.length) (c : Cl) (hc : c.f0 = l[i].f0) (id : Int) : fnd (l.set i c) id = if id = c.f0 then some c else fnd l id := by
  by_cases h : id = c.f0
  · rw [if_pos h, h]
    exact fnd_of (put_pw hp i hi c hc) (List.mem_set hi c)
  · rw [if_neg h]
    cases hf : fnd l id with
    | none =>
      unfold fnd at hf ⊢
      rw [List.find?_eq_none] at hf ⊢
      intro x hx
      rcases List.mem_or_eq_of_mem_set hx with hx | rfl
      · exact hf x hx
      · simp; omega
    | some y =>
      obtain ⟨h1, h2⟩ := fnd_some hf
      have hy : y ∈ l.set i c := by
        obtain ⟨j, hj, rfl⟩ := List.mem_iff_getElem.1 h1
        have hne : i ≠ j := by rintro rfl; exact h (by rw [hc, ← h2])
        rw [List.mem_iff_getElem]
        exact ⟨j, by rw [List.length_set]; exact hj, by rw [List.getElem_set, if_neg hne]⟩
      rw [← h2]
      exact fnd_of (put_pw hp i hi c hc) hy
end Go.Proofs.Ytkhdpmbjjcmooaa.F
