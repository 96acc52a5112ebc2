/- What First, Next, Turns and At of chapter 9 answer, in plain words. No condition but sizes. -/
import Derived.Test.YtcfpbmdndapeaaaDo
import Derived.Test.YtcfpbmdndapeaaaHn
import Derived.Test.YtcfpbmdndapeaaaF15
import Derived.Test.YtcfpbmdndapeaaaF14
import Derived.Test.YtcfpbmdndapeaaaF22
import Derived.Test.YtcfpbmdndapeaaaF23
set_option linter.unusedVariables false
set_option linter.unusedSimpArgs false
namespace Go.Proofs.Ytcfpbmdndapeaaa.F
open Go.RowKit Go.Proofs.YtcfpbmdndapeaaaV.PrintWords Go.Proofs.YtcfpbmdndapeaaaV.PrintLast
namespace Du
open Ds (Tn ltT leT Srt)
theorem ev_all {α β : Type} {A : α → Nat → Option β} {v : α → β} : ∀ (l : List α), (∀ x ∈ l, Ev (A x) (v x)) → ∃ K, ∀ k, K ≤ k → ∀ x ∈ l, A x k = some (v x)
  | [], _ => ⟨0, fun _ _ x hx => by cases hx⟩
  | x :: l, h => by
    obtain ⟨K1, h1⟩ := ev_all l (fun y hy => h y (List.mem_cons_of_mem _ hy))
    obtain ⟨K2, h2⟩ := h x List.mem_cons_self
    refine ⟨K1 + K2, fun k hk y hy => ?_⟩
    rcases List.mem_cons.1 hy with rfl | hy
    · exact h2 k (by omega)
    · exact h1 k (by omega) y hy
/-! ### the first one -/
theorem or2_ev (a b : Int) : Ev (fun k => cmp_Or_int.f k [a, b]) (if a ≠ 0 then a else b) := by
  unfold cmp_Or_int.f
  have w1 : wrap64 (0 + 1) = 1 := wr1 (by omega) (by omega)
  have w2 : wrap64 (1 + 1) = 2 := wr1 (by omega) (by omega)
  have r0 : rd [a, b] 0 = a := rfl
  have r1 : rd [a, b] 1 = b := rfl
  refine Ev.step (fun k => by rw [cmp_Or_int.l0]) ?_
  refine ev_pos (by simp) (ev_pos (by omega) (ev_pos (by simp) ?_))
  rw [r0, w1]
  by_cases h : a = 0
  · rw [if_neg (fun e => e h)]
    refine ev_pos h (Ev.step (fun k => by rw [cmp_Or_int.l0]) ?_)
    refine ev_pos (by simp) (ev_pos (by omega) (ev_pos (by simp) ?_))
    rw [r1, w2]
    by_cases h2 : b = 0
    · subst h2
      refine ev_pos rfl (Ev.step (fun k => by rw [cmp_Or_int.l0]) ?_)
      exact ev_neg (by simp) (Ev.now _)
    · exact ev_neg h2 (Ev.now _)
  · rw [if_pos h]; exact ev_neg h (Ev.now _)
def ltA (x y : Al) : Prop := x.f4 < y.f4 ∨ x.f4 = y.f4 ∧ lt x.f0 y.f0
instance (x y : Al) : Decidable (ltA x y) := by unfold ltA; infer_instance
theorem ltO_ev (x y : Al) : Ev (fun k => due_First.ltO k x y) (decide (ltA x y)) := by
  unfold due_First.ltO
  rw [Ds.compare_is, Ds.by_is]
  simp only [Option.bind_some]
  refine Ev.bind (or2_ev _ _) ?_
  have e : ((if Ds.cmpI x.f4 y.f4 ≠ 0 then Ds.cmpI x.f4 y.f4 else Ds.byI x.f0.f0 x.f0.f1 y.f0.f0 y.f0.f1) < 0) ↔ ltA x y := by
    unfold Ds.cmpI Ds.byI ltA lt
    split <;> split <;> (try split) <;> (try split) <;> (try split) <;> omega
  rw [decide_eq_decide.2 e]
  exact Ev.now _
def stA (s : Option Al) (x : Al) : Option Al := match s with
  | none => some x
  | some b => if ltA x b then some x else some b
/-- The first of the alarms that wait. -/
def first (l : List Al) : Option Al := (l.filter wtP).foldl stA none
theorem best_eq {k : Nat} {l : List Al} (h : ∀ x ∈ l, ∀ y ∈ l, due_First.ltO k x y = some (decide (ltA x y))) : ∀ (m : List Al) (s : Option Al), (∀ b, s = some b → b ∈ l) → (∀ x ∈ m, x ∈ l) → m.foldl (due_First.st k) s = m.foldl stA s := by
  intro m
  induction m with
  | nil => intro s _ _; rfl
  | cons x m ih =>
    intro s hs hm
    have hx := hm x List.mem_cons_self
    have e : due_First.st k s x = stA s x := by
      cases s with
      | none => rfl
      | some c =>
        simp only [due_First.st, stA, h x hx c (hs c rfl), Option.getD_some, decide_eq_true_eq]
    rw [List.foldl_cons, List.foldl_cons, ← e]
    exact ih _ (due_First.st_mem hs hx) (fun y hy => hm y (List.mem_cons_of_mem _ hy))
theorem first_ev (l : List Al) (hl : l.length < 1000000) : Ev (fun k => due_First.g k l) (due_First.z (first l), (first l).isSome) := by
  obtain ⟨K, hK⟩ := ev_all (A := fun p k => due_First.ltO k p.1 p.2) (v := fun p => decide (ltA p.1 p.2)) (l.flatMap fun x => l.map fun y => (x, y)) (fun p _ => ltO_ev p.1 p.2)
  refine ⟨K, fun k hk => ?_⟩
  have h : ∀ x ∈ l, ∀ y ∈ l, due_First.ltO k x y = some (decide (ltA x y)) := fun x hx y hy => hK k hk (x, y) (List.mem_flatMap.2 ⟨x, hx, List.mem_map.2 ⟨y, hy, rfl⟩⟩)
  show due_First.g k l = _
  unfold due_First.g
  rw [if_pos ⟨hl, fun x hx y hy => by rw [h x hx y hy]; rfl⟩]
  have e : due_First.best k (l.filter wtP) = first l := best_eq h _ none (fun _ h => by cases h) (fun x hx => (List.mem_filter.1 hx).1)
  rw [e]
theorem fold_min : ∀ (m : List Al) (s : Option Al) (b : Al), m.foldl stA s = some b → (∀ x ∈ m, ¬ ltA x b) ∧ (∀ c, s = some c → ¬ ltA c b) ∧ (b ∈ m ∨ s = some b) := by
  intro m
  induction m with
  | nil =>
    intro s b h
    refine ⟨fun _ hx => (by cases hx), fun c hc => ?_, .inr h⟩
    obtain rfl := Option.some.inj (hc.symm.trans h)
    unfold ltA lt; omega
  | cons x m ih =>
    intro s b h
    obtain ⟨h1, h2, h3⟩ := ih _ _ h
    cases s with
    | none =>
      have hx := h2 x rfl
      refine ⟨fun y hy => ?_, fun c hc => (by cases hc), ?_⟩
      · rcases List.mem_cons.1 hy with rfl | hy
        · exact hx
        · exact h1 y hy
      · rcases h3 with h3 | h3
        · exact .inl (List.mem_cons_of_mem _ h3)
        · exact .inl (by rw [← Option.some.inj h3]; exact List.mem_cons_self)
    | some c =>
      by_cases hc : ltA x c
      · have e : stA (some c) x = some x := if_pos hc
        rw [e] at h2 h3
        have hx := h2 x rfl
        refine ⟨fun y hy => ?_, fun d hd => ?_, ?_⟩
        · rcases List.mem_cons.1 hy with rfl | hy
          · exact hx
          · exact h1 y hy
        · obtain rfl := Option.some.inj hd
          unfold ltA lt at hc hx ⊢; omega
        · rcases h3 with h3 | h3
          · exact .inl (List.mem_cons_of_mem _ h3)
          · exact .inl (by rw [← Option.some.inj h3]; exact List.mem_cons_self)
      · have e : stA (some c) x = some c := if_neg hc
        rw [e] at h2 h3
        have hb := h2 c rfl
        refine ⟨fun y hy => ?_, fun d hd => ?_, ?_⟩
        · rcases List.mem_cons.1 hy with rfl | hy
          · unfold ltA lt at hc hb ⊢; omega
          · exact h1 y hy
        · obtain rfl := Option.some.inj hd
          exact hb
        · rcases h3 with h3 | h3
          · exact .inl (List.mem_cons_of_mem _ h3)
          · exact .inr h3
theorem first_min {l : List Al} {b : Al} (h : first l = some b) : b ∈ l ∧ wtP b = true ∧ ∀ x ∈ l, wtP x = true → ¬ ltA x b := by
  obtain ⟨h1, _, h3⟩ := fold_min _ _ _ h
  rcases h3 with h3 | h3
  · exact ⟨(List.mem_filter.1 h3).1, (List.mem_filter.1 h3).2, fun x hx hw => h1 x (List.mem_filter.2 ⟨hx, hw⟩)⟩
  · cases h3
theorem fold_some : ∀ (m : List Al) (s : Option Al), s.isSome = true → (m.foldl stA s).isSome = true := by
  intro m
  induction m with
  | nil => intro s h; exact h
  | cons x m ih =>
    intro s h
    refine ih _ ?_
    cases s with
    | none => rfl
    | some c =>
      show (if ltA x c then some x else some c).isSome = true
      split <;> rfl
theorem first_none {l : List Al} (h : first l = none) : ∀ x ∈ l, ¬ wtP x = true := by
  intro x hx hw
  have hm : x ∈ l.filter wtP := List.mem_filter.2 ⟨hx, hw⟩
  unfold first at h
  cases e : l.filter wtP with
  | nil => rw [e] at hm; cases hm
  | cons y m =>
    rw [e, List.foldl_cons] at h
    have := fold_some m (stA none y) rfl
    rw [h] at this
    cases this
/-! ### what an alarm tells -/
def stp (t : Int) (x : Al) : List Tn := if x.f1 = 4 then (if x.f4 > t then [] else ⟨x.f4, x.f0, 1⟩ :: (if x.f4 + wt x.f2 > t then [] else [⟨x.f4 + wt x.f2, x.f0, 2⟩])) else if x.f1 = 1 then (if x.f4 > t then [] else [⟨x.f4, x.f0, 2⟩]) else []
theorem pA_wake {x : Al} (hx : isA x) (c4 : x.f1 = 4) : pA x.f4 x = ⟨x.f0, 1, x.f2, x.f3, x.f4 + wt x.f2⟩ := by
  have hw := (wt_pos x.f2).2 ⟨hx.2.2.2.2.2.2.1, hx.2.2.2.2.2.2.2.1⟩
  have e1 : passP x.f0.f0 x.f0.f1 x.f1 x.f2 x.f3 x.f4 x.f4 = 1 := by unfold passP; rw [if_pos hx, if_pos ⟨c4, Int.le_refl _⟩, if_neg (by omega)]
  have e2 : passU x.f0.f0 x.f0.f1 x.f1 x.f2 x.f3 x.f4 x.f4 = x.f4 + wt x.f2 := by unfold passU; rw [if_pos hx, if_pos ⟨c4, Int.le_refl _⟩]
  unfold pA
  rw [e1, e2]
theorem stepT_ev (x : Al) (hx : isA x) (t : Int) : Ev (fun k => due_Turns.stepT k t x) (stp t x) := by
  refine ⟨4, fun k hk => ?_⟩
  obtain ⟨q, rfl⟩ : ∃ q, k = q + 4 := ⟨k - 4, by omega⟩
  have hp : ∀ (y : Al) (u : Int), due_Turns.passO (q + 4) y u = some (pA u y) := fun y u => by
    unfold due_Turns.passO
    rw [alarm_Pass_eq, passA_parts]
    rfl
  have ht : ∀ (y : Al) (ph : Int), due_Turns.turnO (q + 4) y t ph = some (if y.f4 > t then ([], y) else ([⟨y.f4, y.f0, ph⟩], pA y.f4 y)) := fun y ph => by
    unfold due_Turns.turnO
    by_cases c : y.f4 > t
    · rw [if_pos c, if_pos c]
    · rw [if_neg c, if_neg c, hp]
      rfl
  show due_Turns.stepT (q + 4) t x = _
  unfold due_Turns.stepT stp
  by_cases c4 : x.f1 = 4
  · rw [if_pos c4, if_pos c4, ht]
    by_cases c : x.f4 > t
    · rw [if_pos c, if_pos c]
      show (if x.f1 = 1 then _ else _) = _
      rw [if_neg (by omega)]
    · rw [if_neg c, if_neg c, pA_wake hx c4]
      show (if (1 : Int) = 1 then (due_Turns.turnO (q + 4) ⟨x.f0, 1, x.f2, x.f3, x.f4 + wt x.f2⟩ t 2).map (fun p => [(⟨x.f4, x.f0, 1⟩ : Tn)] ++ p.1) else some [(⟨x.f4, x.f0, 1⟩ : Tn)]) = _
      rw [if_pos rfl, ht]
      by_cases c2 : x.f4 + wt x.f2 > t
      · rw [if_pos c2, if_pos c2]; rfl
      · rw [if_neg c2, if_neg c2]; rfl
  · rw [if_neg c4, if_neg c4]
    by_cases c1 : x.f1 = 1
    · rw [if_pos c1, if_pos c1, ht]
      by_cases c : x.f4 > t
      · rw [if_pos c, if_pos c]; rfl
      · rw [if_neg c, if_neg c]; rfl
    · rw [if_neg c1, if_neg c1]
theorem stp_idle {x : Al} (h : ¬ wtP x = true) (t : Int) : stp t x = [] := by
  unfold wtP at h
  simp only [Bool.or_eq_true, beq_iff_eq, not_or] at h
  unfold stp
  rw [if_neg h.2, if_neg h.1]
theorem stp_len (t : Int) (x : Al) : (stp t x).length ≤ 2 := by
  unfold stp
  split
  · split
    · exact Nat.zero_le _
    · split <;> simp
  · split
    · split <;> simp
    · exact Nat.zero_le _
theorem told_is {k : Nat} {t : Int} : ∀ {l : List Al}, (∀ x ∈ l, due_Turns.stepT k t x = some (stp t x)) → due_Turns.told k t (l.filter wtP) = l.flatMap (stp t)
  | [], _ => rfl
  | x :: l, h => by
    have ih := told_is (l := l) (fun y hy => h y (List.mem_cons_of_mem _ hy))
    rw [List.flatMap_cons, ← ih]
    by_cases c : wtP x = true
    · rw [List.filter_cons_of_pos c]
      unfold due_Turns.told
      rw [List.flatMap_cons, h x List.mem_cons_self]
      rfl
    · rw [List.filter_cons_of_neg c, stp_idle c, List.nil_append]
theorem flat_len (t : Int) : ∀ (l : List Al), (l.flatMap (stp t)).length ≤ 2 * l.length
  | [] => Nat.le_refl _
  | x :: l => by
    rw [List.flatMap_cons, List.length_append, List.length_cons]
    have := flat_len t l
    have := stp_len t x
    omega
/-- What Turns answers. -/
def TurnsIs (m n : Int) (l : List Al) (t : Int) (r : List Tn × Int) : Prop :=
  (r.2 = 0 ∧ IsB m n l ∧ 0 ≤ t ∧ t ≤ 1000000000 ∧ n ≤ t ∧ Srt r.1 ∧ r.1.Perm (l.flatMap (stp t))) ∨ (r.2 ≠ 0 ∧ r.1 = [])
theorem turns_ev (m n : Int) (l : List Al) (hl : l.length ≤ 60) (t : Int) : ∃ r, Ev (fun k => due_Turns.f k m n l t) r ∧ TurnsIs m n l t r := by
  obtain ⟨b, h1, h2⟩ := isB_ev m n l (by omega)
  unfold due_Turns.f
  cases b with
  | false => exact ⟨([], 1), Ev.bind h1 (ev_neg (by decide) (Ev.now _)), .inr ⟨show ¬ (1 : Int) = 0 by decide, rfl⟩⟩
  | true =>
    have hw := h2.1 rfl
    by_cases c1 : t < 0
    · exact ⟨([], 1), Ev.bind h1 (ev_pos rfl (ev_pos c1 (Ev.now _))), .inr ⟨show ¬ (1 : Int) = 0 by decide, rfl⟩⟩
    by_cases c2 : t > 1000000000
    · exact ⟨([], 1), Ev.bind h1 (ev_pos rfl (ev_neg c1 (ev_pos c2 (Ev.now _)))), .inr ⟨show ¬ (1 : Int) = 0 by decide, rfl⟩⟩
    by_cases c3 : t < n
    · exact ⟨([], 62), Ev.bind h1 (ev_pos rfl (ev_neg c1 (ev_neg c2 (ev_pos c3 (Ev.now _))))), .inr ⟨show ¬ (62 : Int) = 0 by decide, rfl⟩⟩
    obtain ⟨K, hK⟩ := ev_all (A := fun x k => due_Turns.stepT k t x) (v := fun x => stp t x) l (fun x hx => stepT_ev x (hw.2.2.2.2.2.1 x hx).1 t)
    obtain ⟨r, r1, r2, ⟨K2, r3⟩⟩ := Ds.order_ev (l.flatMap (stp t)) (by have := flat_len t l; omega)
    refine ⟨(r, 0), Ev.bind h1 (ev_pos rfl (ev_neg c1 (ev_neg c2 (ev_neg c3 ⟨K + K2, fun k hk => ?_⟩)))), .inl ⟨rfl, hw, by omega, by omega, by omega, r1, r2⟩⟩
    have hs := hK k (by omega)
    have h4 : due_Order.f k (l.flatMap (stp t)) = some r := r3 k (by omega)
    show (if l.length < 400000 ∧ (∀ x ∈ l, (due_Turns.stepT k t x).isSome = true) then (due_Order.f k (due_Turns.told k t (l.filter wtP))).bind fun r => some (r, 0) else none) = _
    rw [if_pos ⟨by omega, fun x hx => by rw [hs x hx]; rfl⟩, told_is hs, h4]
    rfl
theorem next_ev (m n : Int) (l : List Al) (hl : l.length < 1000000) : Ev (fun k => due_Next.f k m n l) ((due_First.z (first l)).f4, (first l).isSome) := by
  obtain ⟨K, hK⟩ := first_ev l hl
  refine ⟨K, fun k hk => ?_⟩
  have h : due_First.g k l = _ := hK k hk
  show (due_First.g k l).map _ = _
  rw [h]
  rfl
theorem firstf_ev (l : List Al) (hl : l.length < 1000000) : Ev (fun k => due_First.f k l) ((due_First.z (first l)).f0.f0, (due_First.z (first l)).f0.f1, (due_First.z (first l)).f1, (due_First.z (first l)).f2, (due_First.z (first l)).f3, (due_First.z (first l)).f4, (first l).isSome) := by
  obtain ⟨K, hK⟩ := first_ev l hl
  refine ⟨K, fun k hk => ?_⟩
  have h : due_First.g k l = _ := hK k hk
  show (due_First.g k l).map _ = _
  rw [h]
  rfl
theorem coming_ev : Ev (fun _ => watchmanlaw09_coming.f) true := Ev.now _
theorem stp_spot {t : Int} {x : Al} {y : Tn} (h : y ∈ stp t x) : y.f1 = x.f0 ∧ x.f4 ≤ y.f0 ∧ wtP x = true := by
  have hb := wt_bound x.f2
  unfold stp at h
  split at h
  · rename_i c
    have hw : wtP x = true := by unfold wtP; rw [c]; rfl
    split at h
    · cases h
    · rcases List.mem_cons.1 h with rfl | h
      · exact ⟨rfl, Int.le_refl _, hw⟩
      · split at h
        · cases h
        · rw [List.mem_singleton.1 h]; exact ⟨rfl, by show x.f4 ≤ x.f4 + wt x.f2; omega, hw⟩
  · split at h
    · rename_i c
      have hw : wtP x = true := by unfold wtP; rw [c]; rfl
      split at h
      · cases h
      · rw [List.mem_singleton.1 h]; exact ⟨rfl, Int.le_refl _, hw⟩
    · cases h
/-- One that waits tells its next turn, if that comes. -/
theorem stp_head {t : Int} {x : Al} (hw : wtP x = true) (h : x.f4 ≤ t) : ∃ ph, (⟨x.f4, x.f0, ph⟩ : Tn) ∈ stp t x := by
  unfold wtP at hw
  simp only [Bool.or_eq_true, beq_iff_eq] at hw
  unfold stp
  rcases hw with c | c
  · rw [if_neg (by omega), if_pos c, if_neg (by omega)]
    exact ⟨2, List.mem_cons_self⟩
  · rw [if_pos c, if_neg (by omega)]
    exact ⟨1, List.mem_cons_self⟩
theorem far_is (m n : Int) (l : List Al) : watchmanlaw09_far.f m n l = some (decide ((l.length : Int) > 60)) := rfl
end Du
end Go.Proofs.Ytcfpbmdndapeaaa.F
