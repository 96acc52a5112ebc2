/- (as XH, without the law's own rows) What the functions of chapter 8 compute, in plain words over lists of alarms: boards that are right, alarms found, put and passed. No condition but sizes. -/
import Derived.Test.YtcfpbmdndapeaaaF5
import Derived.Test.YtcfpbmdndapeaaaF7
import Derived.Test.YtcfpbmdndapeaaaF14
import Derived.Test.YtcfpbmdndapeaaaF17
import Derived.Test.YtcfpbmdndapeaaaF18
import Derived.Test.YtcfpbmdndapeaaaG
import Derived.KernelRfl
set_option linter.unusedSimpArgs false
namespace Go.Proofs.Ytcfpbmdndapeaaa.F
open Go.RowKit Go.Proofs.YtcfpbmdndapeaaaV.PrintWords Go.Proofs.YtcfpbmdndapeaaaV.PrintLast
theorem wr1 {i : Int} (h : 0 ≤ i) (h' : i < 9223372036854775807) : wrap64 (i + 1) = i + 1 := by unfold wrap64; omega
theorem wrn {i : Int} (h : -9223372036854775808 ≤ i) (h' : i ≤ 9223372036854775807) : wrap64 i = i := by unfold wrap64; omega
theorem ev_pos {α : Type} {c : Prop} [Decidable c] {A B : Nat → Option α} {r : α} (h : c) (e : Ev A r) : Ev (fun k => if c then A k else B k) r := by
  simp only [if_pos h]; exact e
theorem ev_neg {α : Type} {c : Prop} [Decidable c] {A B : Nat → Option α} {r : α} (h : ¬ c) (e : Ev B r) : Ev (fun k => if c then A k else B k) r := by
  simp only [if_neg h]; exact e
theorem rdA (l : List Al) (j : Nat) (h : j < l.length) : rd_T28 l (j : Int) = l[j] := by
  simp [rd_T28, List.getD_eq_getElem?_getD, List.getElem?_eq_getElem h]
abbrev isA (a : Al) : Prop := IsA a.f0.f0 a.f0.f1 a.f1 a.f2 a.f3 a.f4
theorem less_is (a b : Sp) : spot_Less.f a.f0 a.f1 b.f0 b.f1 = some (decide (lt a b)) := by
  unfold spot_Less.f
  by_cases h : a.f0 < b.f0
  · rw [if_pos h, decide_eq_true (show lt a b from .inl h)]
  · rw [if_neg h]
    by_cases h2 : a.f0 = b.f0
    · rw [if_pos h2]; congr 1
      by_cases h3 : a.f1 < b.f1
      · rw [decide_eq_true h3, decide_eq_true (show lt a b from .inr ⟨h2, h3⟩)]
      · rw [decide_eq_false h3, decide_eq_false (show ¬ lt a b by unfold lt; omega)]
    · rw [if_neg h2, decide_eq_false (show ¬ lt a b by unfold lt; omega)]
/-! ### right ones -/
theorem adj_asc (l : List Al) (h : ∀ j, ∀ h2 : j + 1 < l.length, lt l[j].f0 l[j + 1].f0) : asc l := by
  unfold asc
  rw [List.pairwise_iff_getElem]
  intro i j
  induction j with
  | zero => intro _ _ h; omega
  | succ j ih =>
    intro hi hj hij
    rcases Nat.lt_or_ge i j with h2 | h2
    · exact lt_trans (ih hi (by omega) h2) (h j hj)
    · have e : i = j := by omega
      subst e; exact h i hj
theorem rise_l0 (l : List Al) (now : Int) (hb : l.length < 4611686018427387904) : ∀ (d i : Nat), i + d = l.length →
    ∃ b, Ev (fun k => board_alarms_rise.l0 k l now l (l.length : Int) (i : Int)) b ∧ (b = true ↔ ∀ j, i ≤ j → ∀ h : j < l.length, (isA l[j] ∧ l[j].f3 ≤ now) ∧ ∀ h2 : 0 < j, lt l[j - 1].f0 l[j].f0) := by
  intro d
  induction d with
  | zero =>
    intro i hi
    refine ⟨true, ?_, ⟨fun _ j h1 h2 => absurd h2 (by omega), fun _ => rfl⟩⟩
    refine Ev.step (fun k => by rw [board_alarms_rise.l0]) ?_
    exact ev_neg (by omega) (Ev.now _)
  | succ d ih =>
    intro i hi
    have hi2 : i < l.length := by omega
    obtain ⟨b, h1, h2⟩ := ih (i + 1) (by omega)
    have e : ((i + 1 : Nat) : Int) = wrap64 ((i : Int) + 1) := by rw [wr1 (by omega) (by omega)]; rfl
    rw [e] at h1
    have j1t : Ev (fun k => board_alarms_rise.j1 k l now l (l.length : Int) (i : Int) true) false := by
      refine Ev.step (fun k => by rw [board_alarms_rise.j1]) ?_
      exact ev_pos rfl (Ev.now _)
    have j1f : Ev (fun k => board_alarms_rise.j1 k l now l (l.length : Int) (i : Int) false) b := by
      refine Ev.step (fun k => by rw [board_alarms_rise.j1]) ?_
      exact ev_neg (by decide) h1
    have head : ∀ {B C : Nat → Option Bool} {r : Bool}, (isA l[i] → Ev B r) → (¬ isA l[i] → Ev C r) → Ev (fun k => (alarm_Is.f l[i].f0.f0 l[i].f0.f1 l[i].f1 l[i].f2 l[i].f3 l[i].f4).bind fun t => (if t = true then B k else C k)) r := by
      intro B C r h h'
      rw [alarm_Is_eq]
      simp only [Option.bind_some]
      by_cases hA : isA l[i]
      · exact ev_pos (decide_eq_true hA) (h hA)
      · exact ev_neg (by rw [decide_eq_false hA]; decide) (h' hA)
    have more : (isA l[i] ∧ l[i].f3 ≤ now) → (∀ h2 : 0 < i, lt l[i - 1].f0 l[i].f0) → (b = true ↔ ∀ j, i ≤ j → ∀ h : j < l.length, (isA l[j] ∧ l[j].f3 ≤ now) ∧ ∀ h2 : 0 < j, lt l[j - 1].f0 l[j].f0) := by
      intro g1 g2
      refine h2.trans ⟨fun h j hj hj2 => ?_, fun h j hj hj2 => h j (by omega) hj2⟩
      by_cases hji : j = i
      · subst hji; exact ⟨g1, g2⟩
      · exact h j (by omega) hj2
    have start : ∀ r, Ev (fun k => (alarm_Is.f l[i].f0.f0 l[i].f0.f1 l[i].f1 l[i].f2 l[i].f3 l[i].f4).bind fun t => (if t = true then (if l[i].f3 > now then (board_alarms_rise.j1 k l now l (l.length : Int) (i : Int) true) else (if (i : Int) > 0 then (if 0 ≤ (wrap64 ((i : Int) - 1)) then (if (wrap64 ((i : Int) - 1)) < (l.length : Int) then ((spot_Less.f ((rd_T28 l (wrap64 ((i : Int) - 1))).f0.f0) ((rd_T28 l (wrap64 ((i : Int) - 1))).f0.f1) l[i].f0.f0 l[i].f0.f1).bind fun t117 => (board_alarms_rise.j1 k l now l (l.length : Int) (i : Int) (!t117))) else (none)) else (none)) else (board_alarms_rise.j1 k l now l (l.length : Int) (i : Int) false))) else (board_alarms_rise.j1 k l now l (l.length : Int) (i : Int) true))) r → Ev (fun k => board_alarms_rise.l0 k l now l (l.length : Int) (i : Int)) r := by
      intro r hr
      refine Ev.step (fun k => by rw [board_alarms_rise.l0]) ?_
      refine ev_pos (by omega) (ev_pos (by omega) (ev_pos (by omega) ?_))
      rw [rdA l i hi2]
      exact hr
    by_cases hA : isA l[i]
    · by_cases hs : l[i].f3 > now
      · exact ⟨false, start _ (head (fun _ => ev_pos hs j1t) (fun h => absurd hA h)), ⟨fun h => (by cases h), fun h => absurd (h i (Nat.le_refl _) hi2).1.2 (by omega)⟩⟩
      · by_cases h0 : i = 0
        · exact ⟨b, start _ (head (fun _ => ev_neg hs (ev_neg (by omega) j1f)) (fun h => absurd hA h)), more ⟨hA, by omega⟩ (fun h => absurd h (by omega))⟩
        · have ew : wrap64 ((i : Int) - 1) = ((i - 1 : Nat) : Int) := by rw [wrn (by omega) (by omega)]; omega
          by_cases hl : lt l[i - 1].f0 l[i].f0
          · refine ⟨b, start _ (head (fun _ => ev_neg hs (ev_pos (by omega) ?_)) (fun h => absurd hA h)), more ⟨hA, by omega⟩ (fun _ => hl)⟩
            rw [ew, rdA l (i - 1) (by omega), less_is]
            refine ev_pos (by omega) (ev_pos (by omega) ?_)
            simp only [Option.bind_some]
            rw [decide_eq_true hl]
            exact j1f
          · refine ⟨false, start _ (head (fun _ => ev_neg hs (ev_pos (by omega) ?_)) (fun h => absurd hA h)), ⟨fun h => (by cases h), fun h => absurd ((h i (Nat.le_refl _) hi2).2 (by omega)) hl⟩⟩
            rw [ew, rdA l (i - 1) (by omega), less_is]
            refine ev_pos (by omega) (ev_pos (by omega) ?_)
            simp only [Option.bind_some]
            rw [decide_eq_false hl]
            exact j1t
    · exact ⟨false, start _ (head (fun h => absurd h hA) (fun _ => j1t)), ⟨fun h => (by cases h), fun h => absurd (h i (Nat.le_refl _) hi2).1.1 hA⟩⟩
def IsB (m n : Int) (l : List Al) : Prop := 1 ≤ m ∧ m ≤ 200 ∧ 0 ≤ n ∧ n ≤ 1000000000 ∧ (l.length : Int) ≤ m ∧ (∀ a ∈ l, isA a ∧ a.f3 ≤ n) ∧ asc l
theorem isB_ev (m n : Int) (l : List Al) (hb : l.length < 4611686018427387904) : ∃ b, Ev (fun k => board_Is.f k m n l) b ∧ (b = true ↔ IsB m n l) := by
  unfold board_Is.f
  by_cases c1 : m ≥ 1
  · by_cases c2 : m ≤ 200
    · by_cases c3 : n ≥ 0
      · by_cases c4 : n ≤ 1000000000
        · by_cases c5 : (l.length : Int) ≤ m
          · obtain ⟨b, h1, h2⟩ := rise_l0 l n hb l.length 0 (by omega)
            refine ⟨b, ev_pos c1 (ev_pos c2 (ev_pos c3 (ev_pos c4 (ev_pos c5 ?_)))), h2.trans ⟨fun h => ⟨c1, c2, c3, c4, c5, fun a ha => ?_, adj_asc l (fun j hj => ?_)⟩, fun h j _ hj => ⟨h.2.2.2.2.2.1 _ (List.getElem_mem hj), fun h0 => asc_ne h.2.2.2.2.2.2 (j - 1) j (by omega) hj (by omega)⟩⟩⟩
            · unfold board_open.f
              simp only [Option.bind_some]
              exact Ev.bind h1 (Ev.now _)
            · obtain ⟨j, hj, rfl⟩ := List.mem_iff_getElem.1 ha
              exact (h j (by omega) hj).1
            · exact (h (j + 1) (by omega) hj).2 (by omega)
          · exact ⟨false, ev_pos c1 (ev_pos c2 (ev_pos c3 (ev_pos c4 (ev_neg c5 (Ev.now _))))), ⟨fun h => (by cases h), fun h => absurd h.2.2.2.2.1 c5⟩⟩
        · exact ⟨false, ev_pos c1 (ev_pos c2 (ev_pos c3 (ev_neg c4 (Ev.now _)))), ⟨fun h => (by cases h), fun h => absurd h.2.2.2.1 c4⟩⟩
      · exact ⟨false, ev_pos c1 (ev_pos c2 (ev_neg c3 (Ev.now _))), ⟨fun h => (by cases h), fun h => absurd h.2.2.1 c3⟩⟩
    · exact ⟨false, ev_pos c1 (ev_neg c2 (Ev.now _)), ⟨fun h => (by cases h), fun h => absurd h.2.1 c2⟩⟩
  · exact ⟨false, ev_neg c1 (Ev.now _), ⟨fun h => (by cases h), fun h => absurd h.1 c1⟩⟩
/-! ### what is found -/
theorem find_l0 (l : List Al) (s : Sp) (hb : l.length < 4611686018427387904) : ∀ (d i : Nat), i + d = l.length → (∀ j, ∀ h : j < l.length, j < i → lt l[j].f0 s) →
    ∃ q t, Ev (fun k => board_alarms_find.l0 k l (i : Int) s.f0 s.f1) (((q : Nat) : Int), t) ∧ At l s q t := by
  intro d
  induction d with
  | zero =>
    intro i hi hp
    refine ⟨i, false, ?_, ⟨by omega, hp, fun h => absurd h (by omega), ⟨fun h => (by cases h), fun ⟨h, _⟩ => absurd h (by omega)⟩⟩⟩
    refine Ev.step (fun k => by rw [board_alarms_find.l0]) ?_
    exact ev_neg (by omega) (Ev.now _)
  | succ d ih =>
    intro i hi hp
    have hi2 : i < l.length := by omega
    by_cases hl : lt l[i].f0 s
    · obtain ⟨q, t, h1, h2⟩ := ih (i + 1) (by omega) (fun j hj hji => by
        by_cases e : j = i
        · subst e; exact hl
        · exact hp j hj (by omega))
      have e : ((i + 1 : Nat) : Int) = wrap64 ((i : Int) + 1) := by rw [wr1 (by omega) (by omega)]; rfl
      rw [e] at h1
      refine ⟨q, t, ?_, h2⟩
      refine Ev.step (fun k => by rw [board_alarms_find.l0]) ?_
      refine ev_pos (by omega) (ev_pos (by omega) ?_)
      rw [rdA l i hi2, less_is]
      simp only [Option.bind_some]
      exact ev_pos (decide_eq_true hl) h1
    · refine ⟨i, (l[i].f0.f0 == s.f0 && (l[i].f0.f1 == s.f1)), ?_, ⟨by omega, hp, fun _ => hl, ?_⟩⟩
      · refine Ev.step (fun k => by rw [board_alarms_find.l0]) ?_
        refine ev_pos (by omega) (ev_pos (by omega) ?_)
        rw [rdA l i hi2, less_is]
        simp only [Option.bind_some]
        exact ev_neg (by rw [decide_eq_false hl]; decide) (Ev.now _)
      · rw [Bool.and_eq_true, beq_iff_eq, beq_iff_eq]
        exact ⟨fun h => ⟨hi2, sp_ext h.1 h.2⟩, fun ⟨_, h⟩ => by rw [h]; exact ⟨rfl, rfl⟩⟩
theorem find_ev (l : List Al) (s : Sp) (hb : l.length < 4611686018427387904) : ∃ q t, Ev (fun k => board_alarms_find.f k l s.f0 s.f1) (((q : Nat) : Int), t) ∧ At l s q t :=
  find_l0 l s hb l.length 0 (by omega) (fun j _ h => absurd h (by omega))
/-! ### rows joined -/
theorem concat3_ev (x y z : List Al) (hx : x.length < 1000000000) (hy : y.length < 1000000000) (hz : z.length < 1000000000) : Ev (fun k => api_Alarm_85.f k [x, y, z]) (x ++ y ++ z) := by
  have r0 : rd_L3 [x, y, z] 0 = x := rfl
  have r1 : rd_L3 [x, y, z] 1 = y := rfl
  have r2 : rd_L3 [x, y, z] 2 = z := rfl
  have w1 : wrap64 (0 + 1) = 1 := by unfold wrap64; omega
  have w2 : wrap64 (1 + 1) = 2 := by unfold wrap64; omega
  have w3 : wrap64 (2 + 1) = 3 := by unfold wrap64; omega
  have s1 : wrap64 (0 + (x.length : Int)) = (x.length : Int) := by rw [wrn (by omega) (by omega)]; omega
  have s2 : wrap64 ((x.length : Int) + (y.length : Int)) = (x.length : Int) + (y.length : Int) := wrn (by omega) (by omega)
  have s3 : wrap64 ((x.length : Int) + (y.length : Int) + (z.length : Int)) = (x.length : Int) + (y.length : Int) + (z.length : Int) := wrn (by omega) (by omega)
  unfold api_Alarm_85.f
  refine Ev.step (fun k => by rw [api_Alarm_85.l0]) ?_
  refine ev_pos (show (0 : Int) < 3 by decide) (ev_pos (by decide) (ev_pos (show (0 : Int) < 3 by decide) ?_))
  rw [r0, s1, w1]
  refine ev_neg (by omega) ?_
  refine Ev.step (fun k => by rw [api_Alarm_85.l0]) ?_
  refine ev_pos (show (1 : Int) < 3 by decide) (ev_pos (by decide) (ev_pos (show (1 : Int) < 3 by decide) ?_))
  rw [r1, s2, w2]
  refine ev_neg (by omega) ?_
  refine Ev.step (fun k => by rw [api_Alarm_85.l0]) ?_
  refine ev_pos (show (2 : Int) < 3 by decide) (ev_pos (by decide) (ev_pos (show (2 : Int) < 3 by decide) ?_))
  rw [r2, s3, w3]
  refine ev_neg (by omega) ?_
  refine Ev.step (fun k => by rw [api_Alarm_85.l0]) ?_
  refine ev_neg (show ¬ (3 : Int) < 3 by decide) ?_
  have eg : api_Alarm_100.f [] ((x.length : Int) + (y.length : Int) + (z.length : Int)) = some [] := by
    unfold api_Alarm_100.f
    rw [if_pos (by omega), if_pos (by omega)]
  rw [eg]
  simp only [Option.bind_some]
  refine Ev.step (fun k => by rw [api_Alarm_85.l1]) ?_
  refine ev_pos (show (0 : Int) < 3 by decide) (ev_pos (by decide) (ev_pos (show (0 : Int) < 3 by decide) ?_))
  rw [r0, w1]
  refine ev_pos (by simp; omega) ?_
  refine Ev.step (fun k => by rw [api_Alarm_85.l1]) ?_
  refine ev_pos (show (1 : Int) < 3 by decide) (ev_pos (by decide) (ev_pos (show (1 : Int) < 3 by decide) ?_))
  rw [r1, w2]
  refine ev_pos (by simp; omega) ?_
  refine Ev.step (fun k => by rw [api_Alarm_85.l1]) ?_
  refine ev_pos (show (2 : Int) < 3 by decide) (ev_pos (by decide) (ev_pos (show (2 : Int) < 3 by decide) ?_))
  rw [r2, w3]
  refine ev_pos (by simp; omega) ?_
  refine Ev.step (fun k => by rw [api_Alarm_85.l1]) ?_
  refine ev_neg (show ¬ (3 : Int) < 3 by decide) ?_
  rw [List.nil_append]
  exact Ev.now _
theorem with_ev (l more : List Al) (i m : Nat) (hb : l.length < 1000000000) (hm : more.length < 1000000000) (hi : i + m ≤ l.length) : Ev (fun k => board_alarms_with.f k l (i : Int) (m : Int) more) (l.take i ++ more ++ l.drop (i + m)) := by
  unfold board_alarms_with.f
  have w : wrap64 ((i : Int) + (m : Int)) = ((i + m : Nat) : Int) := by rw [wrn (by omega) (by omega)]; omega
  rw [w]
  simp only [Int.toNat_natCast]
  refine ev_pos (by omega) (ev_pos (by omega) (ev_pos (by omega) (ev_pos (by omega) ?_)))
  exact Ev.bind (concat3_ev _ _ _ (by rw [List.length_take]; omega) hm (by rw [List.length_drop]; omega)) (Ev.now _)
/-! ### what is put -/
def PutIs (m n : Int) (l : List Al) (a : Al) (r : Int × Int × List Al × Int) : Prop :=
  (r.2.2.2 = 0 → IsB m n l ∧ isA a ∧ a.f3 ≤ n ∧ ∃ i t, At l a.f0 i t ∧ (t = true ∨ (l.length : Int) < m) ∧ r.1 = m ∧ r.2.1 = n ∧ r.2.2.1 = putL l a i t) ∧
  (r.2.2.2 ≠ 0 → r.1 = 0 ∧ r.2.1 = 0 ∧ r.2.2.1 = [] ∧ ¬ (IsB m n l ∧ isA a ∧ a.f3 ≤ n ∧ ((∃ x ∈ l, x.f0 = a.f0) ∨ (l.length : Int) < m)))
theorem put_ev (m n : Int) (l : List Al) (hb : l.length < 100000000) (a : Al) : ∃ r, Ev (fun k => board_Put.f k m n l a.f0.f0 a.f0.f1 a.f1 a.f2 a.f3 a.f4) r ∧ PutIs m n l a r := by
  obtain ⟨b, h1, h2⟩ := isB_ev m n l (by omega)
  have bad : Ev (fun k => board_Put.j0 k true m n l a.f0.f0 a.f0.f1 a.f1 a.f2 a.f3 a.f4) (0, 0, [], 1) := by
    refine Ev.step (fun k => by rw [board_Put.j0]) ?_
    exact ev_pos rfl (Ev.now _)
  have no : ¬ (IsB m n l ∧ isA a ∧ a.f3 ≤ n ∧ ((∃ x ∈ l, x.f0 = a.f0) ∨ (l.length : Int) < m)) → PutIs m n l a (0, 0, [], 1) := fun h => ⟨fun h => absurd h (show ¬ (1 : Int) = 0 by decide), fun _ => ⟨rfl, rfl, rfl, h⟩⟩
  unfold board_Put.f
  cases b with
  | false => exact ⟨_, Ev.bind h1 (ev_neg (by decide) bad), no (fun h => by have := h2.2 h.1; cases this)⟩
  | true =>
    have hw := h2.1 rfl
    by_cases hA : isA a
    · have head : ∀ r, Ev (fun k => board_Put.j0 k (decide (a.f3 > n)) m n l a.f0.f0 a.f0.f1 a.f1 a.f2 a.f3 a.f4) r → Ev (fun k => (board_Is.f k m n l).bind fun t161 => (if t161 = true then ((alarm_Is.f a.f0.f0 a.f0.f1 a.f1 a.f2 a.f3 a.f4).bind fun t162 => (if t162 = true then (board_Put.j0 k (decide (a.f3 > n)) m n l a.f0.f0 a.f0.f1 a.f1 a.f2 a.f3 a.f4) else (board_Put.j0 k true m n l a.f0.f0 a.f0.f1 a.f1 a.f2 a.f3 a.f4))) else (board_Put.j0 k true m n l a.f0.f0 a.f0.f1 a.f1 a.f2 a.f3 a.f4))) r := by
        intro r hr
        refine Ev.bind h1 (ev_pos rfl ?_)
        rw [alarm_Is_eq]
        simp only [Option.bind_some]
        exact ev_pos (decide_eq_true hA) hr
      by_cases hs : a.f3 > n
      · refine ⟨_, head _ (by rw [decide_eq_true hs]; exact bad), no (fun h => by omega)⟩
      · have head2 : ∀ r, Ev (fun k => board_Put.j0 k false m n l a.f0.f0 a.f0.f1 a.f1 a.f2 a.f3 a.f4) r → _ := fun r hr => head r (by rw [decide_eq_false hs]; exact hr)
        obtain ⟨q, t, f1, f2⟩ := find_ev l a.f0 (by omega)
        have hth := f2.there hw.2.2.2.2.2.2
        have hq := f2.1
        cases t with
        | true =>
          have hq2 : q < l.length := (f2.2.2.2.1 rfl).1
          refine ⟨(m, n, putL l a q true, 0), head2 _ ?_, ⟨fun _ => ⟨hw, hA, by omega, q, true, f2, .inl rfl, rfl, rfl, rfl⟩, fun h => absurd rfl h⟩⟩
          refine Ev.step (fun k => by rw [board_Put.j0]) ?_
          refine ev_neg (by decide) ?_
          unfold board_open.f
          simp only [Option.bind_some]
          refine Ev.bind f1 (ev_pos rfl ?_)
          have hwi := with_ev l [a] q 1 (by omega) (by simp) (by omega)
          refine Ev.bind (a := putL l a q true) ?_ (Ev.now _)
          unfold putL
          rw [show l.take q ++ a :: l.drop (q + if true = true then 1 else 0) = l.take q ++ [a] ++ l.drop (q + 1) by simp]
          exact hwi
        | false =>
          by_cases hfull : (l.length : Int) = m
          · refine ⟨(0, 0, [], 81), head2 _ ?_, ⟨fun h => absurd h (show ¬ (81 : Int) = 0 by decide), fun _ => ⟨rfl, rfl, rfl, fun h => ?_⟩⟩⟩
            · refine Ev.step (fun k => by rw [board_Put.j0]) ?_
              refine ev_neg (by decide) ?_
              unfold board_open.f
              simp only [Option.bind_some]
              exact Ev.bind f1 (ev_neg (show ¬ (false = true) by decide) (ev_pos hfull (Ev.now _)))
            · rcases h.2.2.2 with h | h
              · have := hth.2 h; cases this
              · omega
          · have hlt : (l.length : Int) < m := by have := hw.2.2.2.2.1; omega
            refine ⟨(m, n, putL l a q false, 0), head2 _ ?_, ⟨fun _ => ⟨hw, hA, by omega, q, false, f2, .inr hlt, rfl, rfl, rfl⟩, fun h => absurd rfl h⟩⟩
            refine Ev.step (fun k => by rw [board_Put.j0]) ?_
            refine ev_neg (by decide) ?_
            unfold board_open.f
            simp only [Option.bind_some]
            refine Ev.bind f1 (ev_neg (show ¬ (false = true) by decide) (ev_neg hfull ?_))
            have hwi := with_ev l [a] q 0 (by omega) (by simp) (by omega)
            refine Ev.bind (a := putL l a q false) ?_ (Ev.now _)
            unfold putL
            rw [show l.take q ++ a :: l.drop (q + if false = true then 1 else 0) = l.take q ++ [a] ++ l.drop (q + 0) by simp]
            exact hwi
    · refine ⟨_, Ev.bind h1 (ev_pos rfl ?_), no (fun h => hA h.2.1)⟩
      rw [alarm_Is_eq]
      simp only [Option.bind_some]
      exact ev_neg (by rw [decide_eq_false hA]; decide) bad
theorem put_isB {m n : Int} {l : List Al} {a : Al} {i : Nat} {t : Bool} (hw : IsB m n l) (hA : isA a) (hs : a.f3 ≤ n) (h : At l a.f0 i t) (hr : t = true ∨ (l.length : Int) < m) : IsB m n (putL l a i t) := by
  refine ⟨hw.1, hw.2.1, hw.2.2.1, hw.2.2.2.1, ?_, fun x hx => ?_, put_asc h hw.2.2.2.2.2.2⟩
  · rw [put_len h]
    have := hw.2.2.2.2.1
    rcases hr with rfl | hr
    · simp; exact this
    · split <;> omega
  · rcases (put_mem h hw.2.2.2.2.2.2 x).1 hx with rfl | ⟨hx, _⟩
    · exact ⟨hA, hs⟩
    · exact hw.2.2.2.2.2.1 x hx
/-! ### rows compared -/
theorem same_l0 (l : List Al) (hb : l.length < 4611686018427387904) : ∀ (d i : Nat), i + d = l.length → Ev (fun k => watchmanref07_Same.l0 k l l (i : Int)) true := by
  intro d
  induction d with
  | zero =>
    intro i hi
    refine Ev.step (fun k => by rw [watchmanref07_Same.l0]) ?_
    exact ev_neg (by omega) (Ev.now _)
  | succ d ih =>
    intro i hi
    have h1 := ih (i + 1) (by omega)
    have e : ((i + 1 : Nat) : Int) = wrap64 ((i : Int) + 1) := by rw [wr1 (by omega) (by omega)]; rfl
    rw [e] at h1
    refine Ev.step (fun k => by rw [watchmanref07_Same.l0]) ?_
    refine ev_pos (by omega) (ev_pos (by omega) (ev_pos (by omega) (ev_neg (by simp) h1)))
theorem same_ev (m n : Int) (l : List Al) (hb : l.length < 4611686018427387904) : Ev (fun k => watchmanref08_Same.f k m n l m n l) true := by
  unfold watchmanref08_Same.f
  refine ev_pos rfl (ev_pos rfl (Ev.bind (a := true) ?_ (Ev.now _)))
  unfold watchmanref07_Same.f
  exact ev_pos rfl (same_l0 l hb l.length 0 (by omega))
end Go.Proofs.Ytcfpbmdndapeaaa.F
