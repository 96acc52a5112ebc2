/- The pure statement of BoardPass: time till one time, and then till a later one, is as time till that; no alarm comes, or goes. -/
import Derived.Test.YtcfpbmdndapeaaaH
import Derived.Test.YtcfpbmdndapeaaaQBoardPass
set_option linter.unusedVariables false
namespace Go.Proofs.Ytcfpbmdndapeaaa.F
open Go.RowKit Go.Proofs.YtcfpbmdndapeaaaV.PrintWords Go.Proofs.YtcfpbmdndapeaaaV.PrintLast
def pA (t : Int) (a : Al) : Al := ⟨a.f0, passP a.f0.f0 a.f0.f1 a.f1 a.f2 a.f3 a.f4 t, a.f2, a.f3, passU a.f0.f0 a.f0.f1 a.f1 a.f2 a.f3 a.f4 t⟩
theorem pass_is (a : Al) (t : Int) : Ev (fun k => alarm_Pass.f k a.f0.f0 a.f0.f1 a.f1 a.f2 a.f3 a.f4 t) (a.f0.f0, a.f0.f1, (pA t a).f1, a.f2, a.f3, (pA t a).f4) := by
  refine ⟨4, fun k hk => ?_⟩
  obtain ⟨q, rfl⟩ : ∃ q, k = q + 4 := ⟨k - 4, by omega⟩
  show alarm_Pass.f (q + 4) a.f0.f0 a.f0.f1 a.f1 a.f2 a.f3 a.f4 t = _
  rw [alarm_Pass_eq, passA_parts]
  rfl
theorem pA_pA (a : Al) (t u : Int) (h : t ≤ u) (hu : u ≤ 1000000000) : pA u (pA t a) = pA u a := by
  have key : passA a.f0.f0 a.f0.f1 (pA t a).f1 a.f2 a.f3 (pA t a).f4 u = passA a.f0.f0 a.f0.f1 a.f1 a.f2 a.f3 a.f4 u := by
    by_cases hs : a.f4 ≤ 1000000000
    · exact pass_pass a.f0.f0 a.f0.f1 a.f1 a.f2 a.f3 a.f4 t u h (fun _ => hs)
    · have h1 := pass_still (b := a.f0.f0) (c := a.f0.f1) (p := a.f1) (r := a.f2) (s := a.f3) (u := a.f4) (at_ := t) (by omega)
      rw [passA_parts] at h1
      simp only [Prod.mk.injEq, true_and] at h1
      show passA a.f0.f0 a.f0.f1 (passP a.f0.f0 a.f0.f1 a.f1 a.f2 a.f3 a.f4 t) a.f2 a.f3 (passU a.f0.f0 a.f0.f1 a.f1 a.f2 a.f3 a.f4 t) u = _
      rw [h1.1, h1.2]
  rw [passA_parts, passA_parts] at key
  simp only [Prod.mk.injEq, true_and] at key
  show (⟨a.f0, passP a.f0.f0 a.f0.f1 (pA t a).f1 a.f2 a.f3 (pA t a).f4 u, a.f2, a.f3, passU a.f0.f0 a.f0.f1 (pA t a).f1 a.f2 a.f3 (pA t a).f4 u⟩ : Al) = _
  rw [key.1, key.2]
  rfl
theorem map_two (l : List Al) (t u : Int) (h : t ≤ u) (hu : u ≤ 1000000000) : (l.map (pA t)).map (pA u) = l.map (pA u) := by
  rw [List.map_map]
  exact List.map_congr_left (fun a _ => pA_pA a t u h hu)
theorem asc_map (l : List Al) (t : Int) (h : asc l) : asc (l.map (pA t)) := by
  unfold asc at h ⊢
  rw [List.pairwise_map]
  exact h
/-- What Pass answers. -/
def PassIs (m n : Int) (l : List Al) (t : Int) (r : Int × Int × List Al × Int) : Prop :=
  (r.2.2.2 = 0 → IsB m n l ∧ 0 ≤ t ∧ t ≤ 1000000000 ∧ n ≤ t ∧ r.1 = m ∧ r.2.1 = t ∧ r.2.2.1 = l.map (pA t) ∧ IsB m t (l.map (pA t))) ∧
  (r.2.2.2 ≠ 0 → (r.2.2.2 = 1 ∨ r.2.2.2 = 62) ∧ r.2.2.1 = [] ∧ ¬ (IsB m n l ∧ 0 ≤ t ∧ t ≤ 1000000000 ∧ n ≤ t ∧ IsB m t (l.map (pA t))))
theorem pass_l0 (m t : Int) (l : List Al) (hb : l.length < 1000000000) (r : Int × Int × List Al × Int)
    (hfin : Ev (fun k => (board_Is.f k m t (l.map (pA t))).bind fun b => if b = true then some (m, t, l.map (pA t), 0) else some (0, 0, [], 1)) r) : ∀ (d i : Nat), i + d = l.length →
    Ev (fun k => board_Pass.l0 k t l (l.length : Int) (i : Int) m t ((l.take i).map (pA t))) r := by
  intro d
  induction d with
  | zero =>
    intro i hi
    refine Ev.step (fun k => by rw [board_Pass.l0]) ?_
    refine ev_neg (by omega) ?_
    rw [List.take_of_length_le (by omega)]
    exact hfin
  | succ d ih =>
    intro i hi
    have hi2 : i < l.length := by omega
    have h1 := ih (i + 1) (by omega)
    have e : ((i + 1 : Nat) : Int) = wrap64 ((i : Int) + 1) := by rw [wr1 (by omega) (by omega)]; rfl
    rw [e, List.take_succ_eq_append_getElem hi2, List.map_append] at h1
    refine Ev.step (fun k => by rw [board_Pass.l0]) ?_
    refine ev_pos (by omega) (ev_pos (by omega) (ev_pos (by omega) ?_))
    rw [rdA l i hi2]
    refine Ev.bind (pass_is l[i] t) ?_
    exact ev_pos (by rw [List.length_map, List.length_take]; omega) h1
theorem bpass_ev (m n : Int) (l : List Al) (hb : l.length < 1000000000) (t : Int) : ∃ r, Ev (fun k => board_Pass.f k m n l t) r ∧ PassIs m n l t r := by
  obtain ⟨b, h1, h2⟩ := isB_ev m n l (by omega)
  have bad : Ev (fun k => board_Pass.j0 k t true m n l) (0, 0, [], 1) := by
    refine Ev.step (fun k => by rw [board_Pass.j0]) ?_
    exact ev_pos rfl (Ev.now _)
  have no : ¬ (IsB m n l ∧ 0 ≤ t ∧ t ≤ 1000000000 ∧ n ≤ t ∧ IsB m t (l.map (pA t))) → PassIs m n l t (0, 0, [], 1) := fun h => ⟨fun h => absurd h (show ¬ (1 : Int) = 0 by decide), fun _ => ⟨.inl rfl, rfl, h⟩⟩
  unfold board_Pass.f
  cases b with
  | false => exact ⟨_, Ev.bind h1 (ev_neg (by decide) bad), no (fun h => by have := h2.2 h.1; cases this)⟩
  | true =>
    have hw := h2.1 rfl
    by_cases c1 : t < 0
    · exact ⟨_, Ev.bind h1 (ev_pos rfl (ev_pos c1 bad)), no (fun h => by omega)⟩
    by_cases c2 : t > 1000000000
    · exact ⟨_, Ev.bind h1 (ev_pos rfl (ev_neg c1 (by rw [decide_eq_true c2]; exact bad))), no (fun h => by omega)⟩
    have head : ∀ r, Ev (fun k => board_Pass.j0 k t false m n l) r → Ev (fun k => if (true : Bool) = true then (if t < 0 then (board_Pass.j0 k t true m n l) else (board_Pass.j0 k t (decide (t > 1000000000)) m n l)) else (board_Pass.j0 k t true m n l)) r := fun r hr => ev_pos rfl (ev_neg c1 (by rw [decide_eq_false c2]; exact hr))
    by_cases c3 : t < n
    · refine ⟨(0, 0, [], 62), Ev.bind h1 (head _ ?_), ⟨fun h => absurd h (show ¬ (62 : Int) = 0 by decide), fun _ => ⟨.inr rfl, rfl, fun h => by omega⟩⟩⟩
      refine Ev.step (fun k => by rw [board_Pass.j0]) ?_
      exact ev_neg (by decide) (ev_pos c3 (Ev.now _))
    · obtain ⟨b2, g1, g2⟩ := isB_ev m t (l.map (pA t)) (by rw [List.length_map]; omega)
      have go : ∀ r, Ev (fun k => (board_Is.f k m t (l.map (pA t))).bind fun b => if b = true then some (m, t, l.map (pA t), 0) else some (0, 0, [], 1)) r → Ev (fun k => board_Pass.j0 k t false m n l) r := by
        intro r hr
        refine Ev.step (fun k => by rw [board_Pass.j0]) ?_
        refine ev_neg (by decide) (ev_neg c3 ?_)
        exact pass_l0 m t l hb r hr l.length 0 (by omega)
      cases b2 with
      | true =>
        exact ⟨(m, t, l.map (pA t), 0), Ev.bind h1 (head _ (go _ (Ev.bind g1 (ev_pos rfl (Ev.now _))))), ⟨fun _ => ⟨hw, by omega, by omega, by omega, rfl, rfl, rfl, g2.1 rfl⟩, fun h => absurd rfl h⟩⟩
      | false =>
        exact ⟨(0, 0, [], 1), Ev.bind h1 (head _ (go _ (Ev.bind g1 (ev_neg (by decide) (Ev.now _))))), no (fun h => by have := g2.2 h.2.2.2.2; cases this)⟩
theorem get_of (m n : Int) (l : List Al) (hp : asc l) (a : Al) (ha : a ∈ l) : board_Get.f m n l a.f0.f0 a.f0.f1 = some (a.f0.f0, a.f0.f1, a.f1, a.f2, a.f3, a.f4, true) := by
  have hix : ∃ i, ∃ hi : i < l.length, ix_Alarm (fun x => decide (x.f0.f0 = a.f0.f0) && decide (x.f0.f1 = a.f0.f1)) l = (i : Int) ∧ l[i] = a := by
    unfold ix_Alarm
    cases e : l.findIdx? (fun x => decide (x.f0.f0 = a.f0.f0) && decide (x.f0.f1 = a.f0.f1)) with
    | none =>
      rw [List.findIdx?_eq_none_iff] at e
      have := e a ha
      simp at this
    | some i =>
      rw [List.findIdx?_eq_some_iff_getElem] at e
      obtain ⟨hi, h1, _⟩ := e
      rw [Bool.and_eq_true, decide_eq_true_iff, decide_eq_true_iff] at h1
      exact ⟨i, hi, rfl, asc_one hp (List.getElem_mem hi) ha (sp_ext h1.1 h1.2)⟩
  obtain ⟨i, hi, h1, h2⟩ := hix
  unfold board_Get.f
  rw [h1, if_neg (by omega), rdA l i hi, h2]
theorem bp_l0 (l : List Al) (n1 n2 later g : Int) (m : Int) (hl : l.length ≤ 60) (hp : asc l) (hw : IsB m later (l.map (pA later))) (m0 m1 : Int) (x : List Al) (hx : x = l.map (pA later)) (hg : g = 0) : ∀ (d i : Nat), i + d = l.length →
    Ev (fun k => watchmanlaw08_BoardPass.l0 k later g (i : Int) n1 n2 l m later (l.map (pA later)) m later x) true := by
  subst hx
  subst hg
  intro d
  induction d with
  | zero =>
    intro i hi
    refine Ev.step (fun k => by rw [watchmanlaw08_BoardPass.l0]) ?_
    refine ev_neg (by omega) (Ev.bind boards_ev (ev_pos rfl (ev_pos rfl ?_)))
    refine Ev.bind (same_ev m later (l.map (pA later)) (by rw [List.length_map]; omega)) (ev_pos rfl (ev_pos (by rw [List.length_map]) (ev_pos rfl ?_)))
    obtain ⟨b, h1, h2⟩ := isB_ev m later (l.map (pA later)) (by rw [List.length_map]; omega)
    rw [h2.2 hw] at h1
    exact Ev.bind h1 (Ev.now _)
  | succ d ih =>
    intro i hi
    have hi2 : i < l.length := by omega
    have h1 := ih (i + 1) (by omega)
    have e : ((i + 1 : Nat) : Int) = wrap64 ((i : Int) + 1) := by rw [wr1 (by omega) (by omega)]; rfl
    rw [e] at h1
    refine Ev.step (fun k => by rw [watchmanlaw08_BoardPass.l0]) ?_
    refine ev_pos (by omega) (ev_pos (by omega) ?_)
    rw [rdA l i hi2]
    have hg := get_of m later (l.map (pA later)) (asc_map l later hp) (pA later l[i]) (List.mem_map.2 ⟨l[i], List.getElem_mem hi2, rfl⟩)
    have hg2 : board_Get.f m later (l.map (pA later)) l[i].f0.f0 l[i].f0.f1 = some (l[i].f0.f0, l[i].f0.f1, (pA later l[i]).f1, l[i].f2, l[i].f3, (pA later l[i]).f4, true) := hg
    rw [hg2]
    simp only [Option.bind_some]
    refine ev_pos (by simp) ?_
    refine Ev.bind (pass_is l[i] later) ?_
    exact ev_neg (by simp) h1
theorem BoardPass_pure : watchmanlaw08_BoardPass.Pure := by
  intro m n l t u
  intros
  refine Ev.rounds ?_
  unfold watchmanlaw08_BoardPass.f watchmanlaw08_far.f
  simp only [Option.bind_some]
  by_cases hfar : (l.length : Int) > 60
  · exact ev_pos (decide_eq_true hfar) (Ev.now _)
  · refine ev_neg (by rw [decide_eq_false hfar]; decide) ?_
    obtain ⟨r, r1, r2⟩ := bpass_ev m n l (by omega) t
    have small : r.2.2.1.length < 1000000000 := by
      by_cases h0 : r.2.2.2 = 0
      · rw [(r2.1 h0).2.2.2.2.2.2.1, List.length_map]; omega
      · rw [(r2.2 h0).2.1]; simp
    obtain ⟨s, s1, s2⟩ := bpass_ev r.1 r.2.1 r.2.2.1 small u
    obtain ⟨v, v1, v2⟩ := bpass_ev m n l (by omega) u
    refine Ev.bind r1 (Ev.bind s1 (Ev.bind v1 ?_))
    have bad : (r.2.2.2 ≠ 0 ∨ s.2.2.2 ≠ 0) → Ev (fun k => watchmanlaw08_BoardPass.j0 k u r.2.2.2 s.2.2.2 v.2.2.2 true m n l s.1 s.2.1 s.2.2.1 v.1 v.2.1 v.2.2.1) true := by
      intro h
      refine Ev.step (fun k => by rw [watchmanlaw08_BoardPass.j0]) ?_
      refine ev_pos rfl (Ev.bind boards_ev (ev_pos rfl ?_))
      by_cases h0 : r.2.2.2 = 0
      · refine ev_pos h0 ?_
        have h1 : s.2.2.2 ≠ 0 := by rcases h with h | h; exact absurd h0 h; exact h
        rcases (s2.2 h1).1 with h2 | h2
        · exact ev_pos h2 (Ev.now _)
        · refine ev_neg (by omega) ?_
          rw [show (s.2.2.2 == 62) = true from beq_iff_eq.2 h2]
          exact Ev.now _
      · exact ev_neg h0 (Ev.now _)
    by_cases h0 : r.2.2.2 = 0
    · refine ev_pos h0 ?_
      by_cases h1 : s.2.2.2 = 0
      · rw [show (s.2.2.2 != 0) = false from by rw [h1]; rfl]
        obtain ⟨hw, a1, a2, a3, a4, a5, a6, a7⟩ := r2.1 h0
        rw [a4, a5, a6] at s2
        obtain ⟨_, b1, b2, b3, b4, b5, b6, b7⟩ := s2.1 h1
        rw [map_two l t u b3 b2] at b6 b7
        have h2 : v.2.2.2 = 0 := Classical.byContradiction fun h => (v2.2 h).2.2 ⟨hw, by omega, by omega, by omega, b7⟩
        obtain ⟨_, _, _, _, c4, c5, c6, _⟩ := v2.1 h2
        refine Ev.step (fun k => by rw [watchmanlaw08_BoardPass.j0]) ?_
        refine ev_neg (by decide) ?_
        rw [b4, b5, b6, c4, c5]
        exact bp_l0 l m n u v.2.2.2 m (by omega) hw.2.2.2.2.2.2 b7 0 0 _ c6 h2 l.length 0 (by omega)
      · rw [show (s.2.2.2 != 0) = true from by rw [bne_iff_ne]; exact h1]
        exact bad (.inr h1)
    · exact ev_neg h0 (bad (.inl h0))
end Go.Proofs.Ytcfpbmdndapeaaa.F
