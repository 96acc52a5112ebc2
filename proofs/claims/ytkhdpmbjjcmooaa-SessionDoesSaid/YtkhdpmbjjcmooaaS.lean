/- What the functions of chapter 18 compute, in plain words over lists of clients: what may be, who is found, what is told. No condition but sizes. -/
import Derived.Test.YtkhdpmbjjcmooaaF3
import Derived.Test.YtkhdpmbjjcmooaaF13
import Derived.Test.YtkhdpmbjjcmooaaF4
import Derived.Test.YtkhdpmbjjcmooaaF15
import Derived.Test.YtkhdpmbjjcmooaaF8
import Derived.Test.YtkhdpmbjjcmooaaF17
import Derived.Test.YtkhdpmbjjcmooaaF1
set_option linter.unusedSimpArgs false
namespace Go.Proofs.Ytkhdpmbjjcmooaa.F
open Go.RowKit Go.Proofs.YtkhdpmbjjcmooaaV.PrintWords Go.Proofs.YtkhdpmbjjcmooaaV.PrintLast
abbrev Cl := S39
theorem wr1 {i : Int} (h : 0 ≤ i) (h' : i < 9223372036854775807) : wrap64 (i + 1) = i + 1 := by unfold wrap64; omega
theorem wrm {i : Int} (h : -9223372036854775807 ≤ i) (h' : i ≤ 9223372036854775807) : wrap64 (i - 1) = i - 1 := by unfold wrap64; omega
theorem ev_pos {α : Type} {c : Prop} [Decidable c] {A B : Nat → Option α} {r : α} (h : c) (e : Ev A r) : Ev (fun k => if c then A k else B k) r := by
  simp only [if_pos h]; exact e
theorem ev_neg {α : Type} {c : Prop} [Decidable c] {A B : Nat → Option α} {r : α} (h : ¬ c) (e : Ev B r) : Ev (fun k => if c then A k else B k) r := by
  simp only [if_neg h]; exact e
theorem rdC (l : List Cl) (j : Nat) (h : j < l.length) : rd_T39 l (j : Int) = l[j] := by
  simp [rd_T39, List.getD_eq_getElem?_getD, List.getElem?_eq_getElem h]
/-! ### what may be -/
def oka (a n : Int) (s : List ByteArray) : Bool := decide (0 ≤ a ∧ a ≤ 1000 ∧ -1000000000 ≤ n ∧ n ≤ 1000000000 ∧ (s.length : Int) ≤ 20) && !s.any (fun x => decide (80 < (x.size : Int)))
theorem may_is (a n : Int) (s : List ByteArray) : session_reply_may.f a n s = some (oka a n s) := by
  unfold session_reply_may.f oka
  by_cases h1 : 0 ≤ a
  · by_cases h2 : a ≤ 1000
    · by_cases h3 : -1000000000 ≤ n
      · by_cases h4 : n ≤ 1000000000
        · by_cases h5 : (s.length : Int) ≤ 20
          · rw [if_pos h1, if_pos h2, if_pos h3, if_pos h4, if_pos h5, decide_eq_true (⟨h1, h2, h3, h4, h5⟩ : 0 ≤ a ∧ a ≤ 1000 ∧ -1000000000 ≤ n ∧ n ≤ 1000000000 ∧ (s.length : Int) ≤ 20)]; rfl
          · rw [if_pos h1, if_pos h2, if_pos h3, if_pos h4, if_neg h5, decide_eq_false (fun h => h5 h.2.2.2.2)]; rfl
        · rw [if_pos h1, if_pos h2, if_pos h3, if_neg h4, decide_eq_false (fun h => h4 h.2.2.2.1)]; rfl
      · rw [if_pos h1, if_pos h2, if_neg h3, decide_eq_false (fun h => h3 h.2.2.1)]; rfl
    · rw [if_pos h1, if_neg h2, decide_eq_false (fun h => h2 h.2.1)]; rfl
  · rw [if_neg h1, decide_eq_false (fun h => h1 h.1)]; rfl
theorem oka_nil : oka 0 0 [] = true := by decide
def okc (c : Cl) : Bool := decide (1 ≤ c.f0 ∧ c.f0 ≤ 1000000000 ∧ 0 ≤ c.f1 ∧ c.f1 ≤ 1000000000 ∧ 0 ≤ c.f2 ∧ c.f2 ≤ 1000000000) && oka c.f3.f0 c.f3.f1 c.f3.f2
theorem okc_iff (c : Cl) : okc c = true ↔ (1 ≤ c.f0 ∧ c.f0 ≤ 1000000000 ∧ 0 ≤ c.f1 ∧ c.f1 ≤ 1000000000 ∧ 0 ≤ c.f2 ∧ c.f2 ≤ 1000000000) ∧ oka c.f3.f0 c.f3.f1 c.f3.f2 = true := by
  unfold okc; rw [Bool.and_eq_true, decide_eq_true_iff]
theorem right_is (c : Cl) : session_client_right.f c.f3.f0 c.f3.f1 c.f3.f2 c.f0 c.f1 c.f2 = some (okc c) := by
  unfold session_client_right.f okc
  rw [may_is]
  by_cases h1 : c.f0 ≥ 1
  · by_cases h2 : c.f0 ≤ 1000000000
    · by_cases h3 : c.f1 ≥ 0
      · by_cases h4 : c.f1 ≤ 1000000000
        · by_cases h5 : c.f2 ≥ 0
          · by_cases h6 : c.f2 ≤ 1000000000
            · rw [if_pos h1, if_pos h2, if_pos h3, if_pos h4, if_pos h5, if_pos h6, decide_eq_true (⟨h1, h2, h3, h4, h5, h6⟩ : 1 ≤ c.f0 ∧ c.f0 ≤ 1000000000 ∧ 0 ≤ c.f1 ∧ c.f1 ≤ 1000000000 ∧ 0 ≤ c.f2 ∧ c.f2 ≤ 1000000000)]; rfl
            · rw [if_pos h1, if_pos h2, if_pos h3, if_pos h4, if_pos h5, if_neg h6, decide_eq_false (fun h => h6 h.2.2.2.2.2)]; rfl
          · rw [if_pos h1, if_pos h2, if_pos h3, if_pos h4, if_neg h5, decide_eq_false (fun h => h5 h.2.2.2.2.1)]; rfl
        · rw [if_pos h1, if_pos h2, if_pos h3, if_neg h4, decide_eq_false (fun h => h4 h.2.2.2.1)]; rfl
      · rw [if_pos h1, if_pos h2, if_neg h3, decide_eq_false (fun h => h3 h.2.2.1)]; rfl
    · rw [if_pos h1, if_neg h2, decide_eq_false (fun h => h2 h.2.1)]; rfl
  · rw [if_neg h1, decide_eq_false (fun h => h1 h.1)]; rfl
def isW (l : List Cl) : Prop := (∀ c ∈ l, okc c = true) ∧ l.Pairwise (fun a b => a.f0 < b.f0) ∧ l.length ≤ 30
theorem adj_lt (l : List Cl) (n : Nat) (h : ∀ j, j < n → ∀ h2 : j + 1 < l.length, l[j].f0 < l[j + 1].f0) : ∀ j i, i < j → j ≤ n → ∀ (hj : j < l.length) (hi : i < l.length), l[i].f0 < l[j].f0 := by
  intro j
  induction j with
  | zero => intro i hi; omega
  | succ j ih =>
    intro i hi hn hj hi2
    have h1 := h j (by omega) hj
    rcases Nat.lt_or_ge i j with h2 | h2
    · exact Int.lt_trans (ih i h2 (by omega) (by omega) hi2) h1
    · have e : i = j := by omega
      subst e; exact h1
theorem pw_adj (l : List Cl) : l.Pairwise (fun a b => a.f0 < b.f0) ↔ ∀ j, ∀ h2 : j + 1 < l.length, l[j].f0 < l[j + 1].f0 := by
  rw [List.pairwise_iff_getElem]
  constructor
  · intro h j h2; exact h j (j + 1) (by omega) h2 (by omega)
  · intro h i j hi hj hij
    exact adj_lt l l.length (fun j _ h2 => h j h2) j i hij (by omega) hj hi
theorem is_l0 (l : List Cl) (hb : l.length < 4611686018427387904) : ∀ (d i : Nat), i + d = l.length →
    ∃ b, Ev (fun k => session_Is.l0 k l l (l.length : Int) (i : Int)) b ∧ (b = true ↔ (∀ j, i ≤ j → ∀ h : j < l.length, okc l[j] = true ∧ ∀ h2 : 0 < j, l[j - 1].f0 < l[j].f0) ∧ l.length ≤ 30) := by
  intro d
  induction d with
  | zero =>
    intro i hi
    refine ⟨decide ((l.length : Int) ≤ 30), ?_, ?_⟩
    · refine Ev.step (fun k => by rw [session_Is.l0]) ?_
      exact ev_neg (by omega) (Ev.now _)
    · rw [decide_eq_true_iff]
      exact ⟨fun h => ⟨fun j h1 h2 => absurd h2 (by omega), by omega⟩, fun h => by omega⟩
  | succ d ih =>
    intro i hi
    have hi2 : i < l.length := by omega
    obtain ⟨b, h1, h2⟩ := ih (i + 1) (by omega)
    have e : ((i + 1 : Nat) : Int) = wrap64 ((i : Int) + 1) := by rw [wr1 (by omega) (by omega)]; rfl
    rw [e] at h1
    cases hc : okc l[i] with
    | false =>
      refine ⟨false, ?_, ⟨fun h => (by cases h), fun h => by have := (h.1 i (Nat.le_refl _) hi2).1; rw [hc] at this; cases this⟩⟩
      refine Ev.step (fun k => by rw [session_Is.l0]) ?_
      refine ev_pos (by omega) ?_
      refine ev_pos (by omega) ?_
      refine ev_pos (by omega) ?_
      unfold session_open.f
      simp only [Option.bind_some]
      rw [rdC l i hi2, right_is l[i], hc]
      simp only [Option.bind_some]
      exact ev_neg (by decide) (Ev.now _)
    | true =>
      by_cases h0 : i = 0
      · subst h0
        refine ⟨b, ?_, h2.trans ⟨fun h => ⟨fun j _ hj => ?_, h.2⟩, fun h => ⟨fun j hj hj2 => h.1 j (by omega) hj2, h.2⟩⟩⟩
        · refine Ev.step (fun k => by rw [session_Is.l0]) ?_
          refine ev_pos (by omega) ?_
          refine ev_pos (by omega) ?_
          refine ev_pos (by omega) ?_
          unfold session_open.f
          simp only [Option.bind_some]
          rw [rdC l 0 hi2, right_is l[0], hc]
          simp only [Option.bind_some, if_true]
          exact ev_neg (by omega) h1
        · by_cases hj0 : j = 0
          · subst hj0; exact ⟨hc, fun h2 => absurd h2 (by omega)⟩
          · exact h.1 j (by omega) hj
      · by_cases hlt : l[i - 1].f0 < l[i].f0
        · refine ⟨b, ?_, h2.trans ⟨fun h => ⟨fun j hj hj2 => ?_, h.2⟩, fun h => ⟨fun j hj hj2 => h.1 j (by omega) hj2, h.2⟩⟩⟩
          · refine Ev.step (fun k => by rw [session_Is.l0]) ?_
            refine ev_pos (by omega) ?_
            refine ev_pos (by omega) ?_
            refine ev_pos (by omega) ?_
            unfold session_open.f
            simp only [Option.bind_some]
            rw [rdC l i hi2, right_is l[i], hc]
            simp only [Option.bind_some, if_true]
            refine ev_pos (by omega) ?_
            have ew : wrap64 ((i : Int) - 1) = ((i - 1 : Nat) : Int) := by rw [wrm (by omega) (by omega)]; omega
            rw [ew]
            refine ev_pos (by omega) ?_
            refine ev_pos (by omega) ?_
            rw [rdC l (i - 1) (by omega)]
            exact ev_neg (by omega) h1
          · by_cases hji : j = i
            · subst hji; exact ⟨hc, fun _ => hlt⟩
            · exact h.1 j (by omega) hj2
        · refine ⟨false, ?_, ⟨fun h => (by cases h), fun h => absurd ((h.1 i (Nat.le_refl _) hi2).2 (by omega)) hlt⟩⟩
          refine Ev.step (fun k => by rw [session_Is.l0]) ?_
          refine ev_pos (by omega) ?_
          refine ev_pos (by omega) ?_
          refine ev_pos (by omega) ?_
          unfold session_open.f
          simp only [Option.bind_some]
          rw [rdC l i hi2, right_is l[i], hc]
          simp only [Option.bind_some, if_true]
          refine ev_pos (by omega) ?_
          have ew : wrap64 ((i : Int) - 1) = ((i - 1 : Nat) : Int) := by rw [wrm (by omega) (by omega)]; omega
          rw [ew]
          refine ev_pos (by omega) ?_
          refine ev_pos (by omega) ?_
          rw [rdC l (i - 1) (by omega)]
          exact ev_pos (by omega) (Ev.now _)
theorem is_ev (l : List Cl) (hb : l.length < 4611686018427387904) : ∃ b, Ev (fun k => session_Is.f k l) b ∧ (b = true ↔ isW l) := by
  obtain ⟨b, h1, h2⟩ := is_l0 l hb l.length 0 (by omega)
  refine ⟨b, h1, h2.trans ⟨fun h => ⟨fun c hc => ?_, (pw_adj l).2 (fun j hj => ?_), h.2⟩, fun h => ⟨fun j _ hj => ⟨h.1 _ (List.getElem_mem hj), fun h0 => ?_⟩, h.2.2⟩⟩⟩
  · obtain ⟨j, hj, rfl⟩ := List.mem_iff_getElem.1 hc
    exact (h.1 j (by omega) hj).1
  · exact (h.1 (j + 1) (by omega) hj).2 (by omega)
  · have := (pw_adj l).1 h.2.1 (j - 1) (by omega)
    simpa [show j - 1 + 1 = j by omega] using this
theorem is_yes (l : List Cl) (h : isW l) : Ev (fun k => session_Is.f k l) true := by
  obtain ⟨b, h1, h2⟩ := is_ev l (by have := h.2.2; omega)
  rw [h2.2 h] at h1; exact h1
/-! ### who is found -/
def fnd (l : List Cl) (id : Int) : Option Cl := l.find? (fun x => decide (x.f0 = id))
theorem fnd_none {l : List Cl} {id : Int} (h : fnd l id = none) (c : Cl) (hc : c ∈ l) : c.f0 ≠ id := by
  unfold fnd at h
  rw [List.find?_eq_none] at h
  have := h c hc
  simpa using this
theorem fnd_some {l : List Cl} {id : Int} {c : Cl} (h : fnd l id = some c) : c ∈ l ∧ c.f0 = id := by
  unfold fnd at h
  exact ⟨List.mem_of_find?_eq_some h, by simpa using List.find?_some h⟩
theorem fnd_of {l : List Cl} (hp : l.Pairwise (fun a b => a.f0 < b.f0)) {c : Cl} (hc : c ∈ l) : fnd l c.f0 = some c := by
  unfold fnd
  induction l with
  | nil => simp at hc
  | cons x xs ih =>
    rw [List.pairwise_cons] at hp
    rcases List.mem_cons.1 hc with rfl | hc
    · simp
    · rw [List.find?_cons_of_neg (by have := hp.1 c hc; simp; omega)]
      exact ih hp.2 hc
theorem ix_none {l : List Cl} {id : Int} (h : fnd l id = none) : ix_Client (fun x => decide (x.f0 = id)) l = -1 := by
  have e : l.findIdx? (fun x => decide (x.f0 = id)) = none := by
    rw [List.findIdx?_eq_none_iff]
    intro x hx
    exact decide_eq_false (fnd_none h x hx)
  unfold ix_Client; rw [e]
theorem ix_some {l : List Cl} {id : Int} {c : Cl} (h : fnd l id = some c) : ∃ i, ∃ hi : i < l.length, ix_Client (fun x => decide (x.f0 = id)) l = (i : Int) ∧ l[i] = c := by
  unfold fnd at h
  rw [List.find?_eq_some_iff_getElem] at h
  obtain ⟨h1, i, hi, h2, h3⟩ := h
  refine ⟨i, hi, ?_, h2⟩
  have e : l.findIdx? (fun x => decide (x.f0 = id)) = some i := by
    rw [List.findIdx?_eq_some_iff_getElem]
    exact ⟨hi, by rw [h2]; exact h1, fun j hj => by simpa using h3 j hj⟩
  unfold ix_Client; rw [e]
def sml (l : List Cl) : Prop := ∀ c ∈ l, c.f3.f2.length < 8796093022208
theorem clone_is (l : List ByteArray) (h : l.length < 8796093022208) : slices_Clone_string_string.f l = some l := by
  unfold slices_Clone_string_string.f; rw [if_pos h]
theorem told_is (a n : Int) (s : List ByteArray) (i l u : Int) (h : s.length < 8796093022208) : session_client_told.f a n s i l u = some (i, l, u, a, n, s) := by
  unfold session_client_told.f session_reply_own.f
  rw [clone_is s h]; rfl
theorem find_none {l : List Cl} {id : Int} (h : fnd l id = none) : session_Find.f l id = some (0, 0, 0, 0, 0, [], false) := by
  unfold session_Find.f session_place.f
  rw [ix_none h, Option.bind_some, if_pos (by decide)]
theorem find_some {l : List Cl} {id : Int} {c : Cl} (hs : sml l) (h : fnd l id = some c) : session_Find.f l id = some (c.f0, c.f1, c.f2, c.f3.f0, c.f3.f1, c.f3.f2, true) := by
  obtain ⟨i, hi, h1, h2⟩ := ix_some h
  unfold session_Find.f session_place.f
  rw [h1, Option.bind_some, if_neg (by omega), if_pos (by omega), if_pos (by omega), rdC l i hi, h2]
  unfold session_open.f
  rw [Option.bind_some, told_is _ _ _ _ _ _ (hs c (fnd_some h).1)]
  rfl
/-! ### what a check tells -/
def chk (l : List Cl) (id req : Int) : Int × Int × List ByteArray × Int :=
  match fnd l id with
  | none => (0, 0, [], 3)
  | some c => if req < 1 ∨ req < c.f1 then (0, 0, [], 2) else if req = c.f1 then (c.f3.f0, c.f3.f1, c.f3.f2, 1) else (0, 0, [], 0)
theorem check_ev (l : List Cl) (hs : sml l) (id req : Int) : Ev (fun k => session_Check.f k l id req) (chk l id req) := by
  unfold session_Check.f chk
  cases h : fnd l id with
  | none =>
    rw [find_none h]
    exact Ev.now _
  | some c =>
    rw [find_some hs h]
    simp only [Option.bind_some, if_true]
    by_cases h1 : req < 1
    · rw [if_pos (Or.inl h1)]
      refine ev_pos h1 ?_
      refine Ev.step (fun k => by rw [session_Check.j0]) ?_
      exact ev_pos rfl (Ev.now _)
    · refine ev_neg h1 ?_
      refine Ev.step (fun k => by rw [session_Check.j0]) ?_
      by_cases h2 : req < c.f1
      · rw [if_pos (show req < 1 ∨ req < c.f1 from Or.inr h2)]
        exact ev_pos (decide_eq_true h2) (Ev.now _)
      · rw [if_neg (show ¬ (req < 1 ∨ req < c.f1) by rintro (h | h) <;> omega)]
        refine ev_neg (fun h => h2 (of_decide_eq_true h)) ?_
        by_cases h3 : req = c.f1
        · rw [if_pos h3, if_pos h3]
          exact Ev.now _
        · rw [if_neg h3, if_neg h3]
          exact Ev.now _
/-! ### clients in memory of their own -/
theorem own_l0 (l : List Cl) (hs : sml l) (hb : l.length < 2199023255552) : ∀ (d i : Nat), i + d = l.length → Ev (fun k => session_own.l0 k (l.take i) l (l.length : Int) (i : Int)) l := by
  intro d
  induction d with
  | zero =>
    intro i hi
    refine Ev.step (fun k => by rw [session_own.l0]) ?_
    refine ev_neg (by omega) ?_
    rw [List.take_of_length_le (by omega)]
    exact Ev.now _
  | succ d ih =>
    intro i hi
    have hi2 : i < l.length := by omega
    have h1 := ih (i + 1) (by omega)
    have e : ((i + 1 : Nat) : Int) = wrap64 ((i : Int) + 1) := by rw [wr1 (by omega) (by omega)]; rfl
    rw [e, List.take_succ_eq_append_getElem hi2] at h1
    refine Ev.step (fun k => by rw [session_own.l0]) ?_
    refine ev_pos (by omega) ?_
    refine ev_pos (by omega) ?_
    refine ev_pos (by omega) ?_
    unfold session_open.f
    simp only [Option.bind_some]
    rw [rdC l i hi2, told_is _ _ _ _ _ _ (hs _ (List.getElem_mem hi2))]
    simp only [Option.bind_some]
    exact ev_pos (by rw [List.length_take]; omega) h1
theorem own_ev (l : List Cl) (hs : sml l) (hb : l.length < 2199023255552) : Ev (fun k => session_own.f k l) l := own_l0 l hs hb l.length 0 (by omega)
/-! ### what is put -/
theorem put_ev (l : List Cl) (hs : sml l) (hb : l.length < 2199023255552) (id req now a n : Int) (s : List ByteArray) (hl : s.length < 8796093022208) :
    ∃ r, Ev (fun k => session_Put.f k l id req now a n s) r ∧ (r.2 = 0 ∨ r.1 = []) ∧
      (r.2 = 0 → isW l ∧ 0 ≤ now ∧ now ≤ 1000000000 ∧ req ≤ 1000000000 ∧ oka a n s = true ∧ ∃ i, ∃ hi : i < l.length, l[i].f0 = id ∧ 1 ≤ req ∧ l[i].f1 < req ∧ r.1 = l.set i ⟨id, req, now, ⟨a, n, s⟩⟩) := by
  obtain ⟨b, h1, h2⟩ := is_ev l (by omega)
  have no : ∀ q, Ev (fun k => session_Put.j0 k l id req now true a n s) q ↔ Ev (fun k => session_Put.j0 k l id req now true a n s) q := fun q => Iff.rfl
  have bad : Ev (fun k => session_Put.j0 k l id req now true a n s) (([] : List Cl), 1) := by
    refine Ev.step (fun k => by rw [session_Put.j0]) ?_
    exact ev_pos rfl (Ev.now _)
  unfold session_Put.f
  cases b with
  | false =>
    refine ⟨(([] : List Cl), 1), Ev.bind h1 (ev_neg (by decide) bad), .inr rfl, fun h => (by cases h)⟩
  | true =>
    by_cases c1 : now < 0
    · exact ⟨(([] : List Cl), 1), Ev.bind h1 (ev_pos rfl (ev_pos c1 bad)), .inr rfl, fun h => (by cases h)⟩
    by_cases c2 : now > 1000000000
    · exact ⟨(([] : List Cl), 1), Ev.bind h1 (ev_pos rfl (ev_neg c1 (ev_pos c2 bad))), .inr rfl, fun h => (by cases h)⟩
    by_cases c3 : req > 1000000000
    · exact ⟨(([] : List Cl), 1), Ev.bind h1 (ev_pos rfl (ev_neg c1 (ev_neg c2 (ev_pos c3 bad)))), .inr rfl, fun h => (by cases h)⟩
    cases c4 : oka a n s with
    | false =>
      refine ⟨(([] : List Cl), 1), Ev.bind h1 (ev_pos rfl (ev_neg c1 (ev_neg c2 (ev_neg c3 ?_)))), .inr rfl, fun h => (by cases h)⟩
      rw [may_is, c4]; exact bad
    | true =>
      have go : ∀ r, Ev (fun k => session_Put.j0 k l id req now false a n s) r → Ev (fun n_1 => if (true : Bool) = true then if now < 0 then session_Put.j0 n_1 l id req now true a n s else if now > 1000000000 then session_Put.j0 n_1 l id req now true a n s else if req > 1000000000 then session_Put.j0 n_1 l id req now true a n s else (session_reply_may.f a n s).bind fun t187 => session_Put.j0 n_1 l id req now (!t187) a n s else session_Put.j0 n_1 l id req now true a n s) r := by
        intro r hr
        refine ev_pos rfl (ev_neg c1 (ev_neg c2 (ev_neg c3 ?_)))
        rw [may_is, c4]; exact hr
      have hc := check_ev l hs id req
      unfold chk at hc
      cases hf : fnd l id with
      | none =>
        rw [hf] at hc
        refine ⟨(([] : List Cl), 181), Ev.bind h1 (go _ ?_), .inr rfl, fun h => (by cases h)⟩
        refine Ev.step (fun k => by rw [session_Put.j0]) ?_
        refine ev_neg (by decide) ?_
        exact Ev.bind hc (ev_pos rfl (Ev.now _))
      | some c =>
        rw [hf] at hc
        simp only at hc
        obtain ⟨i, hi, hx, hic⟩ := ix_some hf
        by_cases d1 : req < 1 ∨ req < c.f1
        · rw [if_pos d1] at hc
          refine ⟨(([] : List Cl), 180), Ev.bind h1 (go _ ?_), .inr rfl, fun h => (by cases h)⟩
          refine Ev.step (fun k => by rw [session_Put.j0]) ?_
          refine ev_neg (by decide) ?_
          refine Ev.bind hc (ev_neg (by decide) (ev_pos rfl ?_))
          refine Ev.step (fun k => by rw [session_Put.j1]) ?_
          exact ev_pos (by decide) (Ev.now _)
        · rw [if_neg d1] at hc
          by_cases d2 : req = c.f1
          · rw [if_pos d2] at hc
            refine ⟨(([] : List Cl), 180), Ev.bind h1 (go _ ?_), .inr rfl, fun h => (by cases h)⟩
            refine Ev.step (fun k => by rw [session_Put.j0]) ?_
            refine ev_neg (by decide) ?_
            refine Ev.bind hc (ev_neg (show ¬ (1 : Int) = 3 by decide) (ev_neg (show ¬ (1 : Int) = 2 by decide) ?_))
            refine Ev.step (fun k => by rw [session_Put.j1]) ?_
            exact ev_pos (show ((1 : Int) == 1) = true by decide) (Ev.now _)
          · rw [if_neg d2] at hc
            refine ⟨(l.set i ⟨id, req, now, ⟨a, n, s⟩⟩, 0), Ev.bind h1 (go _ ?_), .inl rfl, fun _ => ⟨h2.1 rfl, by omega, by omega, by omega, rfl, i, hi, by rw [hic]; exact (fnd_some hf).2, by omega, by rw [hic]; omega, rfl⟩⟩
            refine Ev.step (fun k => by rw [session_Put.j0]) ?_
            refine ev_neg (by decide) ?_
            refine Ev.bind hc (ev_neg (by decide) (ev_neg (by decide) ?_))
            refine Ev.step (fun k => by rw [session_Put.j1]) ?_
            refine ev_neg (by decide) ?_
            refine Ev.bind (own_ev l hs hb) ?_
            unfold session_place.f
            rw [hx]
            simp only [Option.bind_some]
            rw [told_is _ _ _ _ _ _ hl]
            simp only [Option.bind_some]
            refine ev_pos (by omega) (ev_pos (by omega) ?_)
            exact Ev.now _
end Go.Proofs.Ytkhdpmbjjcmooaa.F
