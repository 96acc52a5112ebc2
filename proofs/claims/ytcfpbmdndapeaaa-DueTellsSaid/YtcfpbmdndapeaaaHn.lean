/- Boards as lists of alarms by rising spots, in plain words: which are right, what Pass and Get answer. No condition. (Of the same words as for chapter 8.) -/
import Derived.Test.YtcfpbmdndapeaaaA8
import Derived.Test.YtcfpbmdndapeaaaF6
import Derived.Test.YtcfpbmdndapeaaaF22
import Derived.Test.YtcfpbmdndapeaaaF5
set_option linter.unusedVariables false
set_option linter.unusedSimpArgs false
namespace Go.Proofs.Ytcfpbmdndapeaaa.F
open Go.RowKit Go.Proofs.YtcfpbmdndapeaaaV.PrintWords Go.Proofs.YtcfpbmdndapeaaaV.PrintLast
abbrev Al := S28
abbrev Sp := S26
def lt (a b : Sp) : Prop := a.f0 < b.f0 ∨ (a.f0 = b.f0 ∧ a.f1 < b.f1)
instance (a b : Sp) : Decidable (lt a b) := by unfold lt; infer_instance
theorem lt_irr (a : Sp) : ¬ lt a a := by unfold lt; omega
theorem lt_trans {a b c : Sp} (h : lt a b) (h' : lt b c) : lt a c := by unfold lt at *; omega
theorem lt_asym {a b : Sp} (h : lt a b) : ¬ lt b a := by unfold lt at *; omega
theorem sp_ext {a b : Sp} (h0 : a.f0 = b.f0) (h1 : a.f1 = b.f1) : a = b := by cases a; cases b; simp_all
theorem lt_tri (a b : Sp) : lt a b ∨ a = b ∨ lt b a := by
  by_cases h : lt a b
  · exact .inl h
  · by_cases h2 : lt b a
    · exact .inr (.inr h2)
    · refine .inr (.inl (sp_ext ?_ ?_)) <;> (unfold lt at h h2; omega)
def asc (l : List Al) : Prop := l.Pairwise (fun a b => lt a.f0 b.f0)
theorem asc_ext {l1 : List Al} : ∀ {l2 : List Al}, asc l1 → asc l2 → (∀ a, a ∈ l1 ↔ a ∈ l2) → l1 = l2 := by
  induction l1 with
  | nil =>
    intro l2 _ _ h
    cases l2 with
    | nil => rfl
    | cons y ys => exact absurd ((h y).2 (by simp)) (by simp)
  | cons x xs ih =>
    intro l2 h1 h2 h
    cases l2 with
    | nil => exact absurd ((h x).1 (by simp)) (by simp)
    | cons y ys =>
      have h1' := List.pairwise_cons.1 h1
      have h2' := List.pairwise_cons.1 h2
      have exy : x = y := by
        rcases List.mem_cons.1 ((h x).1 (by simp)) with e | e
        · exact e
        · rcases List.mem_cons.1 ((h y).2 (by simp)) with e2 | e2
          · exact e2.symm
          · exact absurd (h1'.1 y e2) (lt_asym (h2'.1 x e))
      subst exy
      congr 1
      refine ih h1'.2 h2'.2 (fun a => ⟨fun ha => ?_, fun ha => ?_⟩)
      · rcases List.mem_cons.1 ((h a).1 (by simp [ha])) with e | e
        · subst e; exact absurd (h1'.1 a ha) (lt_irr _)
        · exact e
      · rcases List.mem_cons.1 ((h a).2 (by simp [ha])) with e | e
        · subst e; exact absurd (h2'.1 a ha) (lt_irr _)
        · exact e
theorem asc_ne {l : List Al} (h : asc l) (i j : Nat) (hi : i < l.length) (hj : j < l.length) (hij : i < j) : lt l[i].f0 l[j].f0 := by
  unfold asc at h; rw [List.pairwise_iff_getElem] at h; exact h i j hi hj hij
/-- Alarms of one spot of a board are one. -/
theorem asc_one {l : List Al} (h : asc l) {a b : Al} (ha : a ∈ l) (hb : b ∈ l) (e : a.f0 = b.f0) : a = b := by
  obtain ⟨i, hi, rfl⟩ := List.mem_iff_getElem.1 ha
  obtain ⟨j, hj, rfl⟩ := List.mem_iff_getElem.1 hb
  rcases Nat.lt_trichotomy i j with h2 | h2 | h2
  · have := asc_ne h i j hi hj h2; rw [e] at this; exact absurd this (lt_irr _)
  · subst h2; rfl
  · have := asc_ne h j i hj hi h2; rw [e] at this; exact absurd this (lt_irr _)
theorem wr1 {i : Int} (h : 0 ≤ i) (h' : i < 9223372036854775807) : wrap64 (i + 1) = i + 1 := by unfold wrap64; omega
theorem wrn {i : Int} (h : -9223372036854775808 ≤ i) (h' : i ≤ 9223372036854775807) : wrap64 i = i := by unfold wrap64; omega
theorem ev_pos {α : Type} {c : Prop} [Decidable c] {A B : Nat → Option α} {r : α} (h : c) (e : Ev A r) : Ev (fun k => if c then A k else B k) r := by
  simp only [if_pos h]; exact e
theorem ev_neg {α : Type} {c : Prop} [Decidable c] {A B : Nat → Option α} {r : α} (h : ¬ c) (e : Ev B r) : Ev (fun k => if c then A k else B k) r := by
  simp only [if_neg h]; exact e
theorem rdA (l : List Al) (j : Nat) (h : j < l.length) : rd_T28 l (j : Int) = l[j] := by
  simp [rd_T28, List.getD_eq_getElem?_getD, List.getElem?_eq_getElem h]
abbrev isA (a : Al) : Prop := IsA a.f0.f0 a.f0.f1 a.f1 a.f2 a.f3 a.f4
theorem less_is (a b : Sp) : spot_Less.f a.f0 a.f1 b.f0 b.f1 = some (decide (lt a b)) := by
  unfold spot_Less.f
  by_cases h : a.f0 < b.f0
  · rw [if_pos h, decide_eq_true (show lt a b from .inl h)]
  · rw [if_neg h]
    by_cases h2 : a.f0 = b.f0
    · rw [if_pos h2]; congr 1
      by_cases h3 : a.f1 < b.f1
      · rw [decide_eq_true h3, decide_eq_true (show lt a b from .inr ⟨h2, h3⟩)]
      · rw [decide_eq_false h3, decide_eq_false (show ¬ lt a b by unfold lt; omega)]
    · rw [if_neg h2, decide_eq_false (show ¬ lt a b by unfold lt; omega)]
/-! ### right ones -/
theorem adj_asc (l : List Al) (h : ∀ j, ∀ h2 : j + 1 < l.length, lt l[j].f0 l[j + 1].f0) : asc l := by
  unfold asc
  rw [List.pairwise_iff_getElem]
  intro i j
  induction j with
  | zero => intro _ _ h; omega
  | succ j ih =>
    intro hi hj hij
    rcases Nat.lt_or_ge i j with h2 | h2
    · exact lt_trans (ih hi (by omega) h2) (h j hj)
    · have e : i = j := by omega
      subst e; exact h i hj
theorem rise_l0 (l : List Al) (now : Int) (hb : l.length < 4611686018427387904) : ∀ (d i : Nat), i + d = l.length →
    ∃ b, Ev (fun k => board_alarms_rise.l0 k l now l (l.length : Int) (i : Int)) b ∧ (b = true ↔ ∀ j, i ≤ j → ∀ h : j < l.length, (isA l[j] ∧ l[j].f3 ≤ now) ∧ ∀ h2 : 0 < j, lt l[j - 1].f0 l[j].f0) := by
  intro d
  induction d with
  | zero =>
    intro i hi
    refine ⟨true, ?_, ⟨fun _ j h1 h2 => absurd h2 (by omega), fun _ => rfl⟩⟩
    refine Ev.step (fun k => by rw [board_alarms_rise.l0]) ?_
    exact ev_neg (by omega) (Ev.now _)
  | succ d ih =>
    intro i hi
    have hi2 : i < l.length := by omega
    obtain ⟨b, h1, h2⟩ := ih (i + 1) (by omega)
    have e : ((i + 1 : Nat) : Int) = wrap64 ((i : Int) + 1) := by rw [wr1 (by omega) (by omega)]; rfl
    rw [e] at h1
    have j1t : Ev (fun k => board_alarms_rise.j1 k l now l (l.length : Int) (i : Int) true) false := by
      refine Ev.step (fun k => by rw [board_alarms_rise.j1]) ?_
      exact ev_pos rfl (Ev.now _)
    have j1f : Ev (fun k => board_alarms_rise.j1 k l now l (l.length : Int) (i : Int) false) b := by
      refine Ev.step (fun k => by rw [board_alarms_rise.j1]) ?_
      exact ev_neg (by decide) h1
    have head : ∀ {B C : Nat → Option Bool} {r : Bool}, (isA l[i] → Ev B r) → (¬ isA l[i] → Ev C r) → Ev (fun k => (alarm_Is.f l[i].f0.f0 l[i].f0.f1 l[i].f1 l[i].f2 l[i].f3 l[i].f4).bind fun t => (if t = true then B k else C k)) r := by
      intro B C r h h'
      rw [alarm_Is_eq]
      simp only [Option.bind_some]
      by_cases hA : isA l[i]
      · exact ev_pos (decide_eq_true hA) (h hA)
      · exact ev_neg (by rw [decide_eq_false hA]; decide) (h' hA)
    have more : (isA l[i] ∧ l[i].f3 ≤ now) → (∀ h2 : 0 < i, lt l[i - 1].f0 l[i].f0) → (b = true ↔ ∀ j, i ≤ j → ∀ h : j < l.length, (isA l[j] ∧ l[j].f3 ≤ now) ∧ ∀ h2 : 0 < j, lt l[j - 1].f0 l[j].f0) := by
      intro g1 g2
      refine h2.trans ⟨fun h j hj hj2 => ?_, fun h j hj hj2 => h j (by omega) hj2⟩
      by_cases hji : j = i
      · subst hji; exact ⟨g1, g2⟩
      · exact h j (by omega) hj2
    have start : ∀ r, Ev (fun k => (alarm_Is.f l[i].f0.f0 l[i].f0.f1 l[i].f1 l[i].f2 l[i].f3 l[i].f4).bind fun t => (if t = true then (if l[i].f3 > now then (board_alarms_rise.j1 k l now l (l.length : Int) (i : Int) true) else (if (i : Int) > 0 then (if 0 ≤ (wrap64 ((i : Int) - 1)) then (if (wrap64 ((i : Int) - 1)) < (l.length : Int) then ((spot_Less.f ((rd_T28 l (wrap64 ((i : Int) - 1))).f0.f0) ((rd_T28 l (wrap64 ((i : Int) - 1))).f0.f1) l[i].f0.f0 l[i].f0.f1).bind fun t117 => (board_alarms_rise.j1 k l now l (l.length : Int) (i : Int) (!t117))) else (none)) else (none)) else (board_alarms_rise.j1 k l now l (l.length : Int) (i : Int) false))) else (board_alarms_rise.j1 k l now l (l.length : Int) (i : Int) true))) r → Ev (fun k => board_alarms_rise.l0 k l now l (l.length : Int) (i : Int)) r := by
      intro r hr
      refine Ev.step (fun k => by rw [board_alarms_rise.l0]) ?_
      refine ev_pos (by omega) (ev_pos (by omega) (ev_pos (by omega) ?_))
      rw [rdA l i hi2]
      exact hr
    by_cases hA : isA l[i]
    · by_cases hs : l[i].f3 > now
      · exact ⟨false, start _ (head (fun _ => ev_pos hs j1t) (fun h => absurd hA h)), ⟨fun h => (by cases h), fun h => absurd (h i (Nat.le_refl _) hi2).1.2 (by omega)⟩⟩
      · by_cases h0 : i = 0
        · exact ⟨b, start _ (head (fun _ => ev_neg hs (ev_neg (by omega) j1f)) (fun h => absurd hA h)), more ⟨hA, by omega⟩ (fun h => absurd h (by omega))⟩
        · have ew : wrap64 ((i : Int) - 1) = ((i - 1 : Nat) : Int) := by rw [wrn (by omega) (by omega)]; omega
          by_cases hl : lt l[i - 1].f0 l[i].f0
          · refine ⟨b, start _ (head (fun _ => ev_neg hs (ev_pos (by omega) ?_)) (fun h => absurd hA h)), more ⟨hA, by omega⟩ (fun _ => hl)⟩
            rw [ew, rdA l (i - 1) (by omega), less_is]
            refine ev_pos (by omega) (ev_pos (by omega) ?_)
            simp only [Option.bind_some]
            rw [decide_eq_true hl]
            exact j1f
          · refine ⟨false, start _ (head (fun _ => ev_neg hs (ev_pos (by omega) ?_)) (fun h => absurd hA h)), ⟨fun h => (by cases h), fun h => absurd ((h i (Nat.le_refl _) hi2).2 (by omega)) hl⟩⟩
            rw [ew, rdA l (i - 1) (by omega), less_is]
            refine ev_pos (by omega) (ev_pos (by omega) ?_)
            simp only [Option.bind_some]
            rw [decide_eq_false hl]
            exact j1t
    · exact ⟨false, start _ (head (fun h => absurd h hA) (fun _ => j1t)), ⟨fun h => (by cases h), fun h => absurd (h i (Nat.le_refl _) hi2).1.1 hA⟩⟩
def IsB (m n : Int) (l : List Al) : Prop := 1 ≤ m ∧ m ≤ 200 ∧ 0 ≤ n ∧ n ≤ 1000000000 ∧ (l.length : Int) ≤ m ∧ (∀ a ∈ l, isA a ∧ a.f3 ≤ n) ∧ asc l
theorem isB_ev (m n : Int) (l : List Al) (hb : l.length < 4611686018427387904) : ∃ b, Ev (fun k => board_Is.f k m n l) b ∧ (b = true ↔ IsB m n l) := by
  unfold board_Is.f
  by_cases c1 : m ≥ 1
  · by_cases c2 : m ≤ 200
    · by_cases c3 : n ≥ 0
      · by_cases c4 : n ≤ 1000000000
        · by_cases c5 : (l.length : Int) ≤ m
          · obtain ⟨b, h1, h2⟩ := rise_l0 l n hb l.length 0 (by omega)
            refine ⟨b, ev_pos c1 (ev_pos c2 (ev_pos c3 (ev_pos c4 (ev_pos c5 ?_)))), h2.trans ⟨fun h => ⟨c1, c2, c3, c4, c5, fun a ha => ?_, adj_asc l (fun j hj => ?_)⟩, fun h j _ hj => ⟨h.2.2.2.2.2.1 _ (List.getElem_mem hj), fun h0 => asc_ne h.2.2.2.2.2.2 (j - 1) j (by omega) hj (by omega)⟩⟩⟩
            · unfold board_open.f
              simp only [Option.bind_some]
              exact Ev.bind h1 (Ev.now _)
            · obtain ⟨j, hj, rfl⟩ := List.mem_iff_getElem.1 ha
              exact (h j (by omega) hj).1
            · exact (h (j + 1) (by omega) hj).2 (by omega)
          · exact ⟨false, ev_pos c1 (ev_pos c2 (ev_pos c3 (ev_pos c4 (ev_neg c5 (Ev.now _))))), ⟨fun h => (by cases h), fun h => absurd h.2.2.2.2.1 c5⟩⟩
        · exact ⟨false, ev_pos c1 (ev_pos c2 (ev_pos c3 (ev_neg c4 (Ev.now _)))), ⟨fun h => (by cases h), fun h => absurd h.2.2.2.1 c4⟩⟩
      · exact ⟨false, ev_pos c1 (ev_pos c2 (ev_neg c3 (Ev.now _))), ⟨fun h => (by cases h), fun h => absurd h.2.2.1 c3⟩⟩
    · exact ⟨false, ev_pos c1 (ev_neg c2 (Ev.now _)), ⟨fun h => (by cases h), fun h => absurd h.2.1 c2⟩⟩
  · exact ⟨false, ev_neg c1 (Ev.now _), ⟨fun h => (by cases h), fun h => absurd h.1 c1⟩⟩
/-! ### what is found -/
def pA (t : Int) (a : Al) : Al := ⟨a.f0, passP a.f0.f0 a.f0.f1 a.f1 a.f2 a.f3 a.f4 t, a.f2, a.f3, passU a.f0.f0 a.f0.f1 a.f1 a.f2 a.f3 a.f4 t⟩
theorem pass_is (a : Al) (t : Int) : Ev (fun k => alarm_Pass.f k a.f0.f0 a.f0.f1 a.f1 a.f2 a.f3 a.f4 t) (a.f0.f0, a.f0.f1, (pA t a).f1, a.f2, a.f3, (pA t a).f4) := by
  refine ⟨4, fun k hk => ?_⟩
  obtain ⟨q, rfl⟩ : ∃ q, k = q + 4 := ⟨k - 4, by omega⟩
  show alarm_Pass.f (q + 4) a.f0.f0 a.f0.f1 a.f1 a.f2 a.f3 a.f4 t = _
  rw [alarm_Pass_eq, passA_parts]
  rfl
theorem pA_pA (a : Al) (t u : Int) (h : t ≤ u) (hu : u ≤ 1000000000) : pA u (pA t a) = pA u a := by
  have key : passA a.f0.f0 a.f0.f1 (pA t a).f1 a.f2 a.f3 (pA t a).f4 u = passA a.f0.f0 a.f0.f1 a.f1 a.f2 a.f3 a.f4 u := by
    by_cases hs : a.f4 ≤ 1000000000
    · exact pass_pass a.f0.f0 a.f0.f1 a.f1 a.f2 a.f3 a.f4 t u h (fun _ => hs)
    · have h1 := pass_still (b := a.f0.f0) (c := a.f0.f1) (p := a.f1) (r := a.f2) (s := a.f3) (u := a.f4) (at_ := t) (by omega)
      rw [passA_parts] at h1
      simp only [Prod.mk.injEq, true_and] at h1
      show passA a.f0.f0 a.f0.f1 (passP a.f0.f0 a.f0.f1 a.f1 a.f2 a.f3 a.f4 t) a.f2 a.f3 (passU a.f0.f0 a.f0.f1 a.f1 a.f2 a.f3 a.f4 t) u = _
      rw [h1.1, h1.2]
  rw [passA_parts, passA_parts] at key
  simp only [Prod.mk.injEq, true_and] at key
  show (⟨a.f0, passP a.f0.f0 a.f0.f1 (pA t a).f1 a.f2 a.f3 (pA t a).f4 u, a.f2, a.f3, passU a.f0.f0 a.f0.f1 (pA t a).f1 a.f2 a.f3 (pA t a).f4 u⟩ : Al) = _
  rw [key.1, key.2]
  rfl
theorem map_two (l : List Al) (t u : Int) (h : t ≤ u) (hu : u ≤ 1000000000) : (l.map (pA t)).map (pA u) = l.map (pA u) := by
  rw [List.map_map]
  exact List.map_congr_left (fun a _ => pA_pA a t u h hu)
theorem asc_map (l : List Al) (t : Int) (h : asc l) : asc (l.map (pA t)) := by
  unfold asc at h ⊢
  rw [List.pairwise_map]
  exact h
theorem get_of (m n : Int) (l : List Al) (hp : asc l) (a : Al) (ha : a ∈ l) : board_Get.f m n l a.f0.f0 a.f0.f1 = some (a.f0.f0, a.f0.f1, a.f1, a.f2, a.f3, a.f4, true) := by
  have hix : ∃ i, ∃ hi : i < l.length, ix_Alarm (fun x => decide (x.f0.f0 = a.f0.f0) && decide (x.f0.f1 = a.f0.f1)) l = (i : Int) ∧ l[i] = a := by
    unfold ix_Alarm
    cases e : l.findIdx? (fun x => decide (x.f0.f0 = a.f0.f0) && decide (x.f0.f1 = a.f0.f1)) with
    | none =>
      rw [List.findIdx?_eq_none_iff] at e
      have := e a ha
      simp at this
    | some i =>
      rw [List.findIdx?_eq_some_iff_getElem] at e
      obtain ⟨hi, h1, _⟩ := e
      rw [Bool.and_eq_true, decide_eq_true_iff, decide_eq_true_iff] at h1
      exact ⟨i, hi, rfl, asc_one hp (List.getElem_mem hi) ha (sp_ext h1.1 h1.2)⟩
  obtain ⟨i, hi, h1, h2⟩ := hix
  unfold board_Get.f
  rw [h1, if_neg (by omega), rdA l i hi, h2]
end Go.Proofs.Ytcfpbmdndapeaaa.F
