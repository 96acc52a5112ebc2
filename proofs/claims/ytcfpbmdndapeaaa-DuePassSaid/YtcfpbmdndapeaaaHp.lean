/- What Pass answers of a board, in plain words. No condition. -/
import Derived.Test.YtcfpbmdndapeaaaHn
import Derived.Test.YtcfpbmdndapeaaaF7
set_option linter.unusedVariables false
set_option linter.unusedSimpArgs false
namespace Go.Proofs.Ytcfpbmdndapeaaa.F
open Go.RowKit Go.Proofs.YtcfpbmdndapeaaaV.PrintWords Go.Proofs.YtcfpbmdndapeaaaV.PrintLast
/-- What Pass answers. -/
def PassIs (m n : Int) (l : List Al) (t : Int) (r : Int × Int × List Al × Int) : Prop :=
 (r.2.2.2 = 0 → IsB m n l ∧ 0 ≤ t ∧ t ≤ 1000000000 ∧ n ≤ t ∧ r.1 = m ∧ r.2.1 = t ∧ r.2.2.1 = l.map (pA t) ∧ IsB m t (l.map (pA t))) ∧
 (r.2.2.2 ≠ 0 → (r.2.2.2 = 1 ∨ r.2.2.2 = 62 ∧ t < n) ∧ r.2.2.1 = [] ∧ ¬ (IsB m n l ∧ 0 ≤ t ∧ t ≤ 1000000000 ∧ n ≤ t ∧ IsB m t (l.map (pA t))))
theorem pass_l0 (m t : Int) (l : List Al) (hb : l.length < 1000000000) (r : Int × Int × List Al × Int)
 (hfin : Ev (fun k => (board_Is.f k m t (l.map (pA t))).bind fun b => if b = true then some (m, t, l.map (pA t), 0) else some (0, 0, [], 1)) r) : ∀ (d i : Nat), i + d = l.length →
 Ev (fun k => board_Pass.l0 k t l (l.length : Int) (i : Int) m t ((l.take i).map (pA t))) r := by
 intro d
 induction d with
 | zero =>
  intro i hi
  refine Ev.step (fun k => by rw [board_Pass.l0]) ?_
  refine ev_neg (by omega) ?_
  rw [List.take_of_length_le (by omega)]
  exact hfin
 | succ d ih =>
  intro i hi
  have hi2 : i < l.length := by omega
  have h1 := ih (i + 1) (by omega)
  have e : ((i + 1 : Nat) : Int) = wrap64 ((i : Int) + 1) := by rw [wr1 (by omega) (by omega)]; rfl
  rw [e, List.take_succ_eq_append_getElem hi2, List.map_append] at h1
  refine Ev.step (fun k => by rw [board_Pass.l0]) ?_
  refine ev_pos (by omega) (ev_pos (by omega) (ev_pos (by omega) ?_))
  rw [rdA l i hi2]
  refine Ev.bind (pass_is l[i] t) ?_
  exact ev_pos (by rw [List.length_map, List.length_take]; omega) h1
theorem bpass_ev (m n : Int) (l : List Al) (hb : l.length < 1000000000) (t : Int) : ∃ r, Ev (fun k => board_Pass.f k m n l t) r ∧ PassIs m n l t r := by
 obtain ⟨b, h1, h2⟩ := isB_ev m n l (by omega)
 have bad : Ev (fun k => board_Pass.j0 k t true m n l) (0, 0, [], 1) := by
  refine Ev.step (fun k => by rw [board_Pass.j0]) ?_
  exact ev_pos rfl (Ev.now _)
 have no : ¬ (IsB m n l ∧ 0 ≤ t ∧ t ≤ 1000000000 ∧ n ≤ t ∧ IsB m t (l.map (pA t))) → PassIs m n l t (0, 0, [], 1) := fun h => ⟨fun h => absurd h (show ¬ (1 : Int) = 0 by decide), fun _ => ⟨.inl rfl, rfl, h⟩⟩
 unfold board_Pass.f
 cases b with
 | false => exact ⟨_, Ev.bind h1 (ev_neg (by decide) bad), no (fun h => by have := h2.2 h.1; cases this)⟩
 | true =>
  have hw := h2.1 rfl
  by_cases c1 : t < 0
  ·exact ⟨_, Ev.bind h1 (ev_pos rfl (ev_pos c1 bad)), no (fun h => by omega)⟩
  by_cases c2 : t > 1000000000
  ·exact ⟨_, Ev.bind h1 (ev_pos rfl (ev_neg c1 (by rw [decide_eq_true c2]; exact bad))), no (fun h => by omega)⟩
  have head : ∀ r, Ev (fun k => board_Pass.j0 k t false m n l) r → Ev (fun k => if (true : Bool) = true then (if t < 0 then (board_Pass.j0 k t true m n l) else (board_Pass.j0 k t (decide (t > 1000000000)) m n l)) else (board_Pass.j0 k t true m n l)) r := fun r hr => ev_pos rfl (ev_neg c1 (by rw [decide_eq_false c2]; exact hr))
  by_cases c3 : t < n
  ·refine ⟨(0, 0, [], 62), Ev.bind h1 (head _ ?_), ⟨fun h => absurd h (show ¬ (62 : Int) = 0 by decide), fun _ => ⟨.inr ⟨rfl, c3⟩, rfl, fun h => by omega⟩⟩⟩
   refine Ev.step (fun k => by rw [board_Pass.j0]) ?_
   exact ev_neg (by decide) (ev_pos c3 (Ev.now _))
  ·obtain ⟨b2, g1, g2⟩ := isB_ev m t (l.map (pA t)) (by rw [List.length_map]; omega)
   have go : ∀ r, Ev (fun k => (board_Is.f k m t (l.map (pA t))).bind fun b => if b = true then some (m, t, l.map (pA t), 0) else some (0, 0, [], 1)) r → Ev (fun k => board_Pass.j0 k t false m n l) r := by
    intro r hr
    refine Ev.step (fun k => by rw [board_Pass.j0]) ?_
    refine ev_neg (by decide) (ev_neg c3 ?_)
    exact pass_l0 m t l hb r hr l.length 0 (by omega)
   cases b2 with
   | true =>
    exact ⟨(m, t, l.map (pA t), 0), Ev.bind h1 (head _ (go _ (Ev.bind g1 (ev_pos rfl (Ev.now _))))), ⟨fun _ => ⟨hw, by omega, by omega, by omega, rfl, rfl, rfl, g2.1 rfl⟩, fun h => absurd rfl h⟩⟩
   | false =>
    exact ⟨(0, 0, [], 1), Ev.bind h1 (head _ (go _ (Ev.bind g1 (ev_neg (by decide) (Ev.now _))))), no (fun h => by have := g2.2 h.2.2.2.2; cases this)⟩
end Go.Proofs.Ytcfpbmdndapeaaa.F
