/- Boards as lists of alarms by rising spots: what is put, dropped and kept, in plain words over lists. No condition. -/
import Derived.Test.YtcfpbmdndapeaaaA8
namespace Go.Proofs.Ytcfpbmdndapeaaa.F
open Go.RowKit Go.Proofs.YtcfpbmdndapeaaaV.PrintWords Go.Proofs.YtcfpbmdndapeaaaV.PrintLast
abbrev Al := S28
abbrev Sp := S26
def lt (a b : Sp) : Prop := a.f0 < b.f0 ∨ (a.f0 = b.f0 ∧ a.f1 < b.f1)
instance (a b : Sp) : Decidable (lt a b) := by unfold lt; infer_instance
theorem lt_irr (a : Sp) : ¬ lt a a := by unfold lt; omega
theorem lt_trans {a b c : Sp} (h : lt a b) (h' : lt b c) : lt a c := by unfold lt at *; omega
theorem lt_asym {a b : Sp} (h : lt a b) : ¬ lt b a := by unfold lt at *; omega
theorem sp_ext {a b : Sp} (h0 : a.f0 = b.f0) (h1 : a.f1 = b.f1) : a = b := by cases a; cases b; simp_all
theorem lt_tri (a b : Sp) : lt a b ∨ a = b ∨ lt b a := by
  by_cases h : lt a b
  · exact .inl h
  · by_cases h2 : lt b a
    · exact .inr (.inr h2)
    · refine .inr (.inl (sp_ext ?_ ?_)) <;> (unfold lt at h h2; omega)
def asc (l : List Al) : Prop := l.Pairwise (fun a b => lt a.f0 b.f0)
theorem asc_ext {l1 : List Al} : ∀ {l2 : List Al}, asc l1 → asc l2 → (∀ a, a ∈ l1 ↔ a ∈ l2) → l1 = l2 := by
  induction l1 with
  | nil =>
    intro l2 _ _ h
    cases l2 with
    | nil => rfl
    | cons y ys => exact absurd ((h y).2 (by simp)) (by simp)
  | cons x xs ih =>
    intro l2 h1 h2 h
    cases l2 with
    | nil => exact absurd ((h x).1 (by simp)) (by simp)
    | cons y ys =>
      have h1' := List.pairwise_cons.1 h1
      have h2' := List.pairwise_cons.1 h2
      have exy : x = y := by
        rcases List.mem_cons.1 ((h x).1 (by simp)) with e | e
        · exact e
        · rcases List.mem_cons.1 ((h y).2 (by simp)) with e2 | e2
          · exact e2.symm
          · exact absurd (h1'.1 y e2) (lt_asym (h2'.1 x e))
      subst exy
      congr 1
      refine ih h1'.2 h2'.2 (fun a => ⟨fun ha => ?_, fun ha => ?_⟩)
      · rcases List.mem_cons.1 ((h a).1 (by simp [ha])) with e | e
        · subst e; exact absurd (h1'.1 a ha) (lt_irr _)
        · exact e
      · rcases List.mem_cons.1 ((h a).2 (by simp [ha])) with e | e
        · subst e; exact absurd (h2'.1 a ha) (lt_irr _)
        · exact e
theorem asc_ne {l : List Al} (h : asc l) (i j : Nat) (hi : i < l.length) (hj : j < l.length) (hij : i < j) : lt l[i].f0 l[j].f0 := by
  unfold asc at h; rw [List.pairwise_iff_getElem] at h; exact h i j hi hj hij
/-- Alarms of one spot of a board are one. -/
theorem asc_one {l : List Al} (h : asc l) {a b : Al} (ha : a ∈ l) (hb : b ∈ l) (e : a.f0 = b.f0) : a = b := by
  obtain ⟨i, hi, rfl⟩ := List.mem_iff_getElem.1 ha
  obtain ⟨j, hj, rfl⟩ := List.mem_iff_getElem.1 hb
  rcases Nat.lt_trichotomy i j with h2 | h2 | h2
  · have := asc_ne h i j hi hj h2; rw [e] at this; exact absurd this (lt_irr _)
  · subst h2; rfl
  · have := asc_ne h j i hj hi h2; rw [e] at this; exact absurd this (lt_irr _)
/-- Where an alarm of a spot stands, or would. -/
def At (l : List Al) (s : Sp) (i : Nat) (there : Bool) : Prop :=
  i ≤ l.length ∧ (∀ j, ∀ h : j < l.length, j < i → lt l[j].f0 s) ∧ (∀ h : i < l.length, ¬ lt l[i].f0 s) ∧ (there = true ↔ ∃ h : i < l.length, l[i].f0 = s)
theorem At.mem_take {l : List Al} {s : Sp} {i : Nat} {t : Bool} (h : At l s i t) (ha : asc l) (x : Al) : x ∈ l.take i ↔ x ∈ l ∧ lt x.f0 s := by
  rw [List.mem_take_iff_getElem]
  constructor
  · rintro ⟨j, hj, rfl⟩
    exact ⟨List.getElem_mem (by omega), h.2.1 j (by omega) (by omega)⟩
  · rintro ⟨hx, hl⟩
    obtain ⟨j, hj, rfl⟩ := List.mem_iff_getElem.1 hx
    refine ⟨j, ?_, rfl⟩
    rcases Nat.lt_or_ge j i with h2 | h2
    · omega
    · exfalso
      have hi : i < l.length := by omega
      have h3 := h.2.2.1 hi
      rcases Nat.lt_or_ge i j with h4 | h4
      · exact h3 (lt_trans (asc_ne ha i j hi hj h4) hl)
      · have e : i = j := by omega
        subst e; exact h3 hl
theorem At.mem_drop {l : List Al} {s : Sp} {i : Nat} {t : Bool} (h : At l s i t) (ha : asc l) (x : Al) : x ∈ l.drop (i + if t then 1 else 0) ↔ x ∈ l ∧ lt s x.f0 := by
  have key : ∀ j, ∀ hj : j < l.length, (i + (if t = true then 1 else 0) ≤ j ↔ lt s l[j].f0) := by
    intro j hj
    rcases Nat.lt_or_ge j i with h2 | h2
    · have := h.2.1 j hj h2
      exact ⟨fun h3 => by omega, fun h3 => absurd h3 (lt_asym this)⟩
    · have hi : i < l.length := by omega
      rcases Nat.lt_or_ge i j with h3 | h3
      · refine ⟨fun _ => ?_, fun _ => by split <;> omega⟩
        rcases lt_tri l[i].f0 s with h4 | h4 | h4
        · exact absurd h4 (h.2.2.1 hi)
        · rw [← h4]; exact asc_ne ha i j hi hj h3
        · exact lt_trans h4 (asc_ne ha i j hi hj h3)
      · have e : i = j := by omega
        subst e
        cases t with
        | true =>
          obtain ⟨_, e⟩ := h.2.2.2.1 rfl
          exact ⟨fun h4 => by simp at h4; omega, fun h4 => by rw [e] at h4; exact absurd h4 (lt_irr _)⟩
        | false =>
          refine ⟨fun _ => ?_, fun _ => by simp⟩
          rcases lt_tri l[i].f0 s with h4 | h4 | h4
          · exact absurd h4 (h.2.2.1 hi)
          · have := h.2.2.2.2 ⟨hi, h4⟩; cases this
          · exact h4
  constructor
  · intro hx
    obtain ⟨j, hj, rfl⟩ := List.mem_iff_getElem.1 hx
    rw [List.length_drop] at hj
    rw [List.getElem_drop]
    exact ⟨List.getElem_mem _, (key _ (by omega)).1 (by omega)⟩
  · rintro ⟨hx, hl⟩
    obtain ⟨j, hj, rfl⟩ := List.mem_iff_getElem.1 hx
    have := (key j hj).2 hl
    rw [List.mem_iff_getElem]
    refine ⟨j - (i + if t = true then 1 else 0), by rw [List.length_drop]; omega, ?_⟩
    rw [List.getElem_drop]
    congr 1
    omega
def putL (l : List Al) (a : Al) (i : Nat) (t : Bool) : List Al := l.take i ++ a :: l.drop (i + if t then 1 else 0)
theorem put_mem {l : List Al} {a : Al} {i : Nat} {t : Bool} (h : At l a.f0 i t) (ha : asc l) (x : Al) : x ∈ putL l a i t ↔ x = a ∨ (x ∈ l ∧ x.f0 ≠ a.f0) := by
  unfold putL
  rw [List.mem_append, List.mem_cons, h.mem_take ha, h.mem_drop ha]
  constructor
  · rintro (⟨h1, h2⟩ | rfl | ⟨h1, h2⟩)
    · exact .inr ⟨h1, fun e => by rw [e] at h2; exact lt_irr _ h2⟩
    · exact .inl rfl
    · exact .inr ⟨h1, fun e => by rw [e] at h2; exact lt_irr _ h2⟩
  · rintro (rfl | ⟨h1, h2⟩)
    · exact .inr (.inl rfl)
    · rcases lt_tri x.f0 a.f0 with h3 | h3 | h3
      · exact .inl ⟨h1, h3⟩
      · exact absurd h3 h2
      · exact .inr (.inr ⟨h1, h3⟩)
theorem put_asc {l : List Al} {a : Al} {i : Nat} {t : Bool} (h : At l a.f0 i t) (ha : asc l) : asc (putL l a i t) := by
  unfold putL asc
  refine List.pairwise_append.2 ⟨ha.sublist (List.take_sublist _ _), List.pairwise_cons.2 ⟨fun b hb => ((h.mem_drop ha b).1 hb).2, ha.sublist (List.drop_sublist _ _)⟩, fun x hx y hy => ?_⟩
  have h1 := ((h.mem_take ha x).1 hx).2
  rcases List.mem_cons.1 hy with rfl | hy
  · exact h1
  · exact lt_trans h1 ((h.mem_drop ha y).1 hy).2
theorem put_len {l : List Al} {a : Al} {i : Nat} {t : Bool} (h : At l a.f0 i t) : (putL l a i t).length = l.length + if t then 0 else 1 := by
  unfold putL
  rw [List.length_append, List.length_cons, List.length_take, List.length_drop]
  have h1 := h.1
  cases t with
  | true => obtain ⟨h2, _⟩ := h.2.2.2.1 rfl; simp; omega
  | false => simp; omega
theorem At.there {l : List Al} {s : Sp} {i : Nat} {t : Bool} (h : At l s i t) (ha : asc l) : t = true ↔ ∃ a ∈ l, a.f0 = s := by
  rw [h.2.2.2]
  constructor
  · rintro ⟨h1, h2⟩; exact ⟨_, List.getElem_mem h1, h2⟩
  · rintro ⟨a, h1, h2⟩
    obtain ⟨j, hj, rfl⟩ := List.mem_iff_getElem.1 h1
    rcases Nat.lt_or_ge j i with h3 | h3
    · have := h.2.1 j hj h3; rw [h2] at this; exact absurd this (lt_irr _)
    · have hi : i < l.length := by omega
      rcases Nat.lt_or_ge i j with h4 | h4
      · have := asc_ne ha i j hi hj h4; rw [h2] at this; exact absurd this (h.2.2.1 hi)
      · have e : i = j := by omega
        subst e; exact ⟨hi, h2⟩
def dropL (l : List Al) (i : Nat) : List Al := l.take i ++ l.drop (i + 1)
theorem drop_mem {l : List Al} {s : Sp} {i : Nat} (h : At l s i true) (ha : asc l) (x : Al) : x ∈ dropL l i ↔ x ∈ l ∧ x.f0 ≠ s := by
  unfold dropL
  have h2 := h.mem_drop ha x
  simp only [if_true] at h2
  rw [List.mem_append, h.mem_take ha, h2]
  constructor
  · rintro (⟨h1, h3⟩ | ⟨h1, h3⟩) <;> exact ⟨h1, fun e => by rw [e] at h3; exact lt_irr _ h3⟩
  · rintro ⟨h1, h3⟩
    rcases lt_tri x.f0 s with h4 | h4 | h4
    · exact .inl ⟨h1, h4⟩
    · exact absurd h4 h3
    · exact .inr ⟨h1, h4⟩
theorem drop_sub (l : List Al) (i : Nat) : (dropL l i).Sublist l := by
  unfold dropL
  have h1 : (l.take i ++ l.drop (i + 1)).Sublist (l.take i ++ l.drop i) := List.Sublist.append (List.Sublist.refl _) (List.drop_sublist_drop_left l (by omega))
  rwa [List.take_append_drop] at h1
end Go.Proofs.Ytcfpbmdndapeaaa.F
