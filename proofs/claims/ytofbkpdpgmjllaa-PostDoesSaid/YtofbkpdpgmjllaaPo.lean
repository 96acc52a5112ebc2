/- What the functions of chapter 21 compute, in plain words over lists of letters: what may be, what is sent, what is looked at. No condition but sizes. -/
import Derived.Test.YtofbkpdpgmjllaaF4
import Derived.Test.YtofbkpdpgmjllaaF7
import Derived.Test.YtofbkpdpgmjllaaF3
import Derived.Test.YtofbkpdpgmjllaaF17
import Derived.KernelRfl
set_option linter.unusedSimpArgs false
namespace Go.Proofs.Ytofbkpdpgmjllaa.F
open Go.RowKit Go.Proofs.YtofbkpdpgmjllaaV.PrintWords Go.Proofs.YtofbkpdpgmjllaaV.PrintLast
abbrev Le := S35
set_option maxRecDepth 100000 in
theorem posted_40 : watchmanlaw21_posted.f 40 = some true := by kernel_rfl
theorem posted_ev : Ev (fun k => watchmanlaw21_posted.f k) true := Ev.of watchmanlaw21_posted.mono posted_40
theorem wr1 {i : Int} (h : 0 ≤ i) (h' : i < 9223372036854775807) : wrap64 (i + 1) = i + 1 := by unfold wrap64; omega
theorem wrs {x : Int} (h : -9223372036854775808 ≤ x) (h' : x ≤ 9223372036854775807) : wrap64 x = x := by unfold wrap64; omega
theorem ev_pos {α : Type} {c : Prop} [Decidable c] {A B : Nat → Option α} {r : α} (h : c) (e : Ev A r) : Ev (fun k => if c then A k else B k) r := by
  simp only [if_pos h]; exact e
theorem ev_neg {α : Type} {c : Prop} [Decidable c] {A B : Nat → Option α} {r : α} (h : ¬ c) (e : Ev B r) : Ev (fun k => if c then A k else B k) r := by
  simp only [if_neg h]; exact e
theorem rdL (l : List Le) (j : Nat) (h : j < l.length) : rd_T35 l (j : Int) = l[j] := by
  simp [rd_T35, List.getD_eq_getElem?_getD, List.getElem?_eq_getElem h]
theorem rdB (l : List ByteArray) (j : Nat) (h : j < l.length) : rdOf ByteArray.empty l (j : Int) = l[j] := by
  simp [rdOf, List.getD_eq_getElem?_getD, List.getElem?_eq_getElem h]
theorem rdI (l : List Int) (j : Nat) (h : j < l.length) : rd l (j : Int) = l[j] := by
  simp [rd, List.getD_eq_getElem?_getD, List.getElem?_eq_getElem h]
theorem le_ext {a b : Le} (h0 : a.f0 = b.f0) (h1 : a.f1 = b.f1) (h2 : a.f2 = b.f2) (h3 : a.f3 = b.f3) : a = b := by cases a; cases b; simp_all
/-! ### what may be -/
theorem whoB_iff (x : Int) : whoB x = true ↔ 0 ≤ x ∧ x ≤ 20 := by unfold whoB; rw [Bool.and_eq_true, decide_eq_true_iff, decide_eq_true_iff]
theorem who_is (x : Int) : post_who.f x = some (whoB x) := by
  unfold post_who.f whoB
  by_cases h : x ≥ 0
  · rw [if_pos h, decide_eq_true (show 0 ≤ x from h), Bool.true_and]
  · rw [if_neg h, decide_eq_false (show ¬ 0 ≤ x from h), Bool.false_and]
def okL (n : Int) (x : Le) : Prop := 0 ≤ x.f0 ∧ x.f0 < n ∧ (0 ≤ x.f1 ∧ x.f1 ≤ 20) ∧ (0 ≤ x.f2 ∧ x.f2 ≤ 20) ∧ x.f3.size ≤ 2000
def IsP (n : Int) (l : List Le) : Prop := 0 ≤ n ∧ n ≤ 1000000000 ∧ l.length ≤ 200 ∧ (∀ x ∈ l, okL n x) ∧ l.Pairwise (fun a b => a.f0 < b.f0)
/-- The letters behind one of a No, one by one. -/
def chk (n : Int) : Int → List Le → Prop
  | _, [] => True
  | last, x :: l => last < x.f0 ∧ x.f0 < n ∧ (0 ≤ x.f1 ∧ x.f1 ≤ 20) ∧ (0 ≤ x.f2 ∧ x.f2 ≤ 20) ∧ x.f3.size ≤ 2000 ∧ chk n x.f0 l
theorem chk_iff (n : Int) : ∀ (l : List Le) (last : Int), -1 ≤ last → (chk n last l ↔ (∀ x ∈ l, okL n x ∧ last < x.f0) ∧ l.Pairwise (fun a b => a.f0 < b.f0))
  | [], _, _ => ⟨fun _ => ⟨fun _ h => (by cases h), List.Pairwise.nil⟩, fun _ => trivial⟩
  | x :: l, last, hl => by
    unfold chk
    constructor
    · rintro ⟨h1, h2, h3, h4, h5, h6⟩
      obtain ⟨h7, h8⟩ := (chk_iff n l x.f0 (by omega)).1 h6
      refine ⟨fun y hy => ?_, List.pairwise_cons.2 ⟨fun y hy => (h7 y hy).2, h8⟩⟩
      rcases List.mem_cons.1 hy with rfl | hy
      · exact ⟨⟨by omega, h2, h3, h4, h5⟩, h1⟩
      · exact ⟨(h7 y hy).1, by have := (h7 y hy).2; omega⟩
    · rintro ⟨h1, h2⟩
      obtain ⟨⟨a1, a2, a3, a4, a5⟩, a6⟩ := h1 x List.mem_cons_self
      obtain ⟨b1, b2⟩ := List.pairwise_cons.1 h2
      exact ⟨a6, a2, a3, a4, a5, (chk_iff n l x.f0 (by omega)).2 ⟨fun y hy => ⟨(h1 y (List.mem_cons_of_mem _ hy)).1, b1 y hy⟩, b2⟩⟩
theorem is_l0 (n : Int) (l : List Le) (hb : l.length < 4611686018427387904) : ∀ (d i : Nat) (last : Int), i + d = l.length →
    ∃ b, Ev (fun k => post_Is.l0 k last l (l.length : Int) (i : Int) n l) b ∧ (b = true ↔ chk n last (l.drop i)) := by
  intro d
  induction d with
  | zero =>
    intro i last hi
    refine ⟨true, ?_, by rw [List.drop_eq_nil_of_le (by omega)]; exact ⟨fun _ => trivial, fun _ => rfl⟩⟩
    refine Ev.step (fun k => by rw [post_Is.l0]) ?_
    exact ev_neg (by omega) (Ev.now _)
  | succ d ih =>
    intro i last hi
    have hi2 : i < l.length := by omega
    obtain ⟨b, h1, h2⟩ := ih (i + 1) l[i].f0 (by omega)
    have e : ((i + 1 : Nat) : Int) = wrap64 ((i : Int) + 1) := by rw [wr1 (by omega) (by omega)]; rfl
    rw [e] at h1
    rw [List.drop_eq_getElem_cons hi2]
    unfold chk
    have bad : ∀ x0 x1 x2 x3, Ev (fun k => post_Is.j2 k l (l.length : Int) (i : Int) true n l x0 x1 x2 x3) false := fun x0 x1 x2 x3 => by
      refine Ev.step (fun k => by rw [post_Is.j2]) ?_
      exact ev_pos rfl (Ev.now _)
    have go : ∀ r, Ev (fun k => if l[i].f0 ≤ last then (post_Is.j2 k l (l.length : Int) (i : Int) true n l l[i].f0 l[i].f1 l[i].f2 l[i].f3) else (if l[i].f0 ≥ n then (post_Is.j2 k l (l.length : Int) (i : Int) true n l l[i].f0 l[i].f1 l[i].f2 l[i].f3) else ((post_who.f l[i].f1).bind fun t112 => (if t112 = true then ((post_who.f l[i].f2).bind fun t113 => (if t113 = true then (post_Is.j2 k l (l.length : Int) (i : Int) (decide ((l[i].f3.size : Int) > 2000)) n l l[i].f0 l[i].f1 l[i].f2 l[i].f3) else (post_Is.j2 k l (l.length : Int) (i : Int) true n l l[i].f0 l[i].f1 l[i].f2 l[i].f3))) else (post_Is.j2 k l (l.length : Int) (i : Int) true n l l[i].f0 l[i].f1 l[i].f2 l[i].f3))))) r → Ev (fun k => post_Is.l0 k last l (l.length : Int) (i : Int) n l) r := fun r h => by
      refine Ev.step (fun k => by rw [post_Is.l0]) ?_
      rw [rdL l i hi2]
      exact ev_pos (by omega) (ev_pos (by omega) (ev_pos (by omega) h))
    by_cases c1 : l[i].f0 ≤ last
    · exact ⟨false, go _ (ev_pos c1 (bad _ _ _ _)), ⟨fun h => (by cases h), fun h => by omega⟩⟩
    by_cases c2 : l[i].f0 ≥ n
    · exact ⟨false, go _ (ev_neg c1 (ev_pos c2 (bad _ _ _ _))), ⟨fun h => (by cases h), fun h => by omega⟩⟩
    cases w1 : whoB l[i].f1 with
    | false =>
      refine ⟨false, go _ (ev_neg c1 (ev_neg c2 ?_)), ⟨fun h => (by cases h), fun h => by have := (whoB_iff _).2 h.2.2.1; rw [w1] at this; cases this⟩⟩
      rw [who_is, w1]
      simp only [Option.bind_some]
      exact ev_neg (by decide) (bad _ _ _ _)
    | true =>
    cases w2 : whoB l[i].f2 with
    | false =>
      refine ⟨false, go _ (ev_neg c1 (ev_neg c2 ?_)), ⟨fun h => (by cases h), fun h => by have := (whoB_iff _).2 h.2.2.2.1; rw [w2] at this; cases this⟩⟩
      rw [who_is, w1, who_is, w2]
      simp only [Option.bind_some]
      exact ev_pos (by decide) (ev_neg (by decide) (bad _ _ _ _))
    | true =>
    have v1 := (whoB_iff _).1 w1
    have v2 := (whoB_iff _).1 w2
    by_cases c3 : (l[i].f3.size : Int) > 2000
    · refine ⟨false, go _ (ev_neg c1 (ev_neg c2 ?_)), ⟨fun h => (by cases h), fun h => by omega⟩⟩
      rw [who_is, w1, who_is, w2, decide_eq_true c3]
      simp only [Option.bind_some]
      exact ev_pos (by decide) (ev_pos (by decide) (bad _ _ _ _))
    · refine ⟨b, go _ (ev_neg c1 (ev_neg c2 ?_)), h2.trans ⟨fun h => ⟨by omega, by omega, v1, v2, by omega, h⟩, fun h => h.2.2.2.2.2⟩⟩
      rw [who_is, w1, who_is, w2, decide_eq_false c3]
      simp only [Option.bind_some]
      refine ev_pos (by decide) (ev_pos (by decide) (Ev.step (fun k => by rw [post_Is.j2]) ?_))
      exact ev_neg (by decide) h1
theorem is_ev (n : Int) (l : List Le) (hb : l.length < 4611686018427387904) : ∃ b, Ev (fun k => post_Is.f k n l) b ∧ (b = true ↔ IsP n l) := by
  have bad : Ev (fun k => post_Is.j0 k true n l) false := by
    refine Ev.step (fun k => by rw [post_Is.j0]) ?_
    exact ev_pos rfl (Ev.now _)
  unfold post_Is.f
  by_cases c1 : n < 0
  · exact ⟨false, ev_pos c1 bad, ⟨fun h => (by cases h), fun h => by have := h.1; omega⟩⟩
  by_cases c2 : n > 1000000000
  · exact ⟨false, ev_neg c1 (ev_pos c2 bad), ⟨fun h => (by cases h), fun h => by have := h.2.1; omega⟩⟩
  by_cases c3 : (l.length : Int) > 200
  · refine ⟨false, ev_neg c1 (ev_neg c2 ?_), ⟨fun h => (by cases h), fun h => by have := h.2.2.1; omega⟩⟩
    rw [decide_eq_true c3]; exact bad
  · obtain ⟨b, h1, h2⟩ := is_l0 n l hb l.length 0 (-1) (by omega)
    refine ⟨b, ev_neg c1 (ev_neg c2 ?_), h2.trans ?_⟩
    · rw [decide_eq_false c3]
      refine Ev.step (fun k => by rw [post_Is.j0]) ?_
      exact ev_neg (by decide) h1
    · rw [List.drop_zero, chk_iff n l (-1) (by omega)]
      exact ⟨fun h => ⟨by omega, by omega, by omega, fun x hx => (h.1 x hx).1, h.2⟩, fun h => ⟨fun x hx => ⟨h.2.2.2.1 x hx, by have := (h.2.2.2.1 x hx).1; omega⟩, h.2.2.2.2⟩⟩
theorem is_yes {n : Int} {l : List Le} (h : IsP n l) : Ev (fun k => post_Is.f k n l) true := by
  obtain ⟨b, h1, h2⟩ := is_ev n l (by have := h.2.2.1; omega)
  rw [h2.2 h] at h1; exact h1
/-! ### what is looked at -/
theorem big_l0 (l : List Le) (n : Int) (hb : l.length < 4611686018427387904) : ∀ (d i : Nat), i + d = l.length → ∃ b, Ev (fun k => watchmanref21_Big.l0 k (i : Int) n l) b ∧ (b = false → l.length ≤ 210) := by
  intro d
  have last : ∀ i : Int, Ev (fun k => watchmanref21_Big.j1 k i false n l) (decide ((l.length : Int) > 210)) := fun i => by
    refine Ev.step (fun k => by rw [watchmanref21_Big.j1]) ?_
    exact ev_neg (by decide) (Ev.now _)
  have hlast : decide ((l.length : Int) > 210) = false → l.length ≤ 210 := fun h => by have := of_decide_eq_false h; omega
  induction d with
  | zero =>
    intro i hi
    refine ⟨_, ?_, hlast⟩
    refine Ev.step (fun k => by rw [watchmanref21_Big.l0]) ?_
    exact ev_neg (by omega) (last _)
  | succ d ih =>
    intro i hi
    have hi2 : i < l.length := by omega
    obtain ⟨b, h1, h2⟩ := ih (i + 1) (by omega)
    have e : ((i + 1 : Nat) : Int) = wrap64 ((i : Int) + 1) := by rw [wr1 (by omega) (by omega)]; rfl
    rw [e] at h1
    by_cases c1 : (l.length : Int) ≤ 210
    · by_cases c2 : ((rd_T35 l (i : Int)).f3.size : Int) > 300
      · refine ⟨true, ?_, fun h => by cases h⟩
        refine Ev.step (fun k => by rw [watchmanref21_Big.l0]) ?_
        refine ev_pos (by omega) ?_
        rw [decide_eq_true c1]
        refine Ev.step (fun k => by rw [watchmanref21_Big.j1]) ?_
        exact ev_pos rfl (ev_pos (by omega) (ev_pos (by omega) (ev_pos c2 (Ev.now _))))
      · refine ⟨b, ?_, h2⟩
        refine Ev.step (fun k => by rw [watchmanref21_Big.l0]) ?_
        refine ev_pos (by omega) ?_
        rw [decide_eq_true c1]
        refine Ev.step (fun k => by rw [watchmanref21_Big.j1]) ?_
        exact ev_pos rfl (ev_pos (by omega) (ev_pos (by omega) (ev_neg c2 h1)))
    · refine ⟨_, ?_, hlast⟩
      refine Ev.step (fun k => by rw [watchmanref21_Big.l0]) ?_
      refine ev_pos (by omega) ?_
      rw [decide_eq_false c1]
      exact last _
theorem far_l0 (l : List Le) (n : Int) (ss : List ByteArray) (hb : l.length < 4611686018427387904) (hs : ss.length < 4611686018427387904) : ∀ (d i : Nat), i + d = ss.length → ∃ b, Ev (fun k => watchmanlaw21_far.l0 k ss (i : Int) n l) b ∧ (b = false → l.length ≤ 210 ∧ ss.length ≤ 60) := by
  intro d
  induction d with
  | zero =>
    intro i hi
    obtain ⟨b, h1, h2⟩ := big_l0 l n hb l.length 0 (by omega)
    cases b with
    | true =>
      refine ⟨true, ?_, fun h => by cases h⟩
      refine Ev.step (fun k => by rw [watchmanlaw21_far.l0]) ?_
      exact ev_neg (by omega) (Ev.bind h1 (ev_pos rfl (Ev.now _)))
    | false =>
      refine ⟨decide ((ss.length : Int) > 60), ?_, fun h => ⟨h2 rfl, by have := of_decide_eq_false h; omega⟩⟩
      refine Ev.step (fun k => by rw [watchmanlaw21_far.l0]) ?_
      exact ev_neg (by omega) (Ev.bind h1 (ev_neg (by decide) (Ev.now _)))
  | succ d ih =>
    intro i hi
    obtain ⟨b, h1, h2⟩ := ih (i + 1) (by omega)
    have e : ((i + 1 : Nat) : Int) = wrap64 ((i : Int) + 1) := by rw [wr1 (by omega) (by omega)]; rfl
    rw [e] at h1
    have yes : Ev (fun k => watchmanlaw21_far.j1 k ss (i : Int) true n l) true := by
      refine Ev.step (fun k => by rw [watchmanlaw21_far.j1]) ?_
      exact ev_pos rfl (Ev.now _)
    have any : ∀ q : Bool, ∃ b, Ev (fun k => watchmanlaw21_far.j1 k ss (i : Int) q n l) b ∧ (b = false → l.length ≤ 210 ∧ ss.length ≤ 60) := fun q => by
      cases q with
      | true => exact ⟨true, yes, fun h => by cases h⟩
      | false =>
        refine ⟨b, ?_, h2⟩
        refine Ev.step (fun k => by rw [watchmanlaw21_far.j1]) ?_
        exact ev_neg (by decide) h1
    by_cases c1 : ((rdOf ByteArray.empty ss (i : Int)).size : Int) > 300
    · by_cases c2 : ((rdOf ByteArray.empty ss (i : Int)).size : Int) ≤ 2000
      · refine ⟨true, ?_, fun h => by cases h⟩
        refine Ev.step (fun k => by rw [watchmanlaw21_far.l0]) ?_
        exact ev_pos (by omega) (ev_pos (by omega) (ev_pos c1 (ev_pos c2 yes)))
      · obtain ⟨b', h3, h4⟩ := any (decide (((rdOf ByteArray.empty ss (i : Int)).size : Int) > 2100))
        refine ⟨b', ?_, h4⟩
        refine Ev.step (fun k => by rw [watchmanlaw21_far.l0]) ?_
        exact ev_pos (by omega) (ev_pos (by omega) (ev_pos c1 (ev_neg c2 h3)))
    · obtain ⟨b', h3, h4⟩ := any (decide (((rdOf ByteArray.empty ss (i : Int)).size : Int) > 2100))
      refine ⟨b', ?_, h4⟩
      refine Ev.step (fun k => by rw [watchmanlaw21_far.l0]) ?_
      exact ev_pos (by omega) (ev_pos (by omega) (ev_neg c1 h3))
theorem far_ev (l : List Le) (n : Int) (ss : List ByteArray) (hb : l.length < 4611686018427387904) (hs : ss.length < 4611686018427387904) : ∃ b, Ev (fun k => watchmanlaw21_far.f k n l ss) b ∧ (b = false → l.length ≤ 210 ∧ ss.length ≤ 60) := by
  unfold watchmanlaw21_far.f
  exact far_l0 l n ss hb hs ss.length 0 (by omega)
/-! ### who is found, what is taken -/
theorem ix_cases (p : Le → Bool) (l : List Le) : (ix_Letter p l = -1 ∧ ∀ x ∈ l, p x = false) ∨ ∃ i, ∃ h : i < l.length, ix_Letter p l = (i : Int) ∧ p l[i] = true := by
  unfold ix_Letter
  cases e : l.findIdx? p with
  | none => exact .inl ⟨rfl, List.findIdx?_eq_none_iff.1 e⟩
  | some i =>
    rw [List.findIdx?_eq_some_iff_getElem] at e
    obtain ⟨h, h1, _⟩ := e
    exact .inr ⟨i, h, rfl, h1⟩
theorem IsP.sub {n : Int} {l m : List Le} (h : IsP n l) (hs : m.Sublist l) : IsP n m :=
  ⟨h.1, h.2.1, Nat.le_trans hs.length_le h.2.2.1, fun x hx => h.2.2.2.1 x (hs.subset hx), h.2.2.2.2.sublist hs⟩
theorem IsP.ne {n : Int} {l : List Le} (h : IsP n l) {i j : Nat} (hi : i < l.length) (hj : j < l.length) (hij : i ≠ j) : l[i].f0 ≠ l[j].f0 := by
  have hp := h.2.2.2.2
  rw [List.pairwise_iff_getElem] at hp
  rcases Nat.lt_or_ge i j with h2 | h2
  · have := hp i j hi hj h2; omega
  · have := hp j i hj hi (by omega); omega
def FindIs (n : Int) (l : List Le) (a : Int) (r : Int × Int) : Prop :=
  (¬ IsP n l ∧ r = (0, 1)) ∨ (IsP n l ∧ (∀ x ∈ l, x.f0 ≠ a) ∧ r = (0, 80)) ∨ (IsP n l ∧ ∃ i, ∃ h : i < l.length, l[i].f0 = a ∧ r = ((i : Int), 0))
theorem find_ev (n : Int) (l : List Le) (a : Int) (hb : l.length < 4611686018427387904) : ∃ r, Ev (fun k => post_find.f k n l a) r ∧ FindIs n l a r := by
  obtain ⟨b, h1, h2⟩ := is_ev n l hb
  unfold post_find.f
  cases b with
  | false => exact ⟨_, Ev.bind h1 (ev_neg (by decide) (Ev.now _)), .inl ⟨fun h => (by have := h2.2 h; cases this), rfl⟩⟩
  | true =>
    have hw := h2.1 rfl
    rcases ix_cases (fun x => decide (x.f0 = a)) l with ⟨e, h3⟩ | ⟨i, h, e, h3⟩
    · exact ⟨_, Ev.bind h1 (ev_pos rfl (ev_pos (by rw [e]; decide) (Ev.now _))), .inr (.inl ⟨hw, fun x hx => of_decide_eq_false (h3 x hx), rfl⟩)⟩
    · refine ⟨_, Ev.bind h1 (ev_pos rfl (ev_neg (by rw [e]; omega) (Ev.now _))), .inr (.inr ⟨hw, i, h, of_decide_eq_true h3, by rw [e]⟩)⟩
def TakeIs (n : Int) (l : List Le) (a : Int) (r : Int × List Le × Int × Int × Int × ByteArray × Int) : Prop :=
  (¬ IsP n l ∧ r = (0, [], 0, 0, 0, ⟨#[]⟩, 1)) ∨ (IsP n l ∧ (∀ x ∈ l, x.f0 ≠ a) ∧ r = (0, [], 0, 0, 0, ⟨#[]⟩, 80)) ∨ (IsP n l ∧ ∃ i, ∃ h : i < l.length, l[i].f0 = a ∧ r = (n, l.eraseIdx i, l[i].f0, l[i].f1, l[i].f2, l[i].f3, 0))
theorem take_ev (n : Int) (l : List Le) (a : Int) (hb : l.length < 1099511627776) : ∃ r, Ev (fun k => post_Take.f k n l a) r ∧ TakeIs n l a r := by
  obtain ⟨r, h1, h2⟩ := find_ev n l a (by omega)
  unfold post_Take.f
  rcases h2 with ⟨hw, rfl⟩ | ⟨hw, hn, rfl⟩ | ⟨hw, i, hi, ha, rfl⟩
  · exact ⟨_, Ev.bind h1 (ev_neg (by decide) (Ev.now _)), .inl ⟨hw, rfl⟩⟩
  · exact ⟨_, Ev.bind h1 (ev_neg (by decide) (Ev.now _)), .inr (.inl ⟨hw, hn, rfl⟩)⟩
  · refine ⟨_, Ev.bind h1 (ev_pos rfl (ev_pos (by simp only; omega) (ev_pos (by simp only; omega) ?_))), .inr (.inr ⟨hw, i, hi, ha, rfl⟩)⟩
    have e : api_Letter_31.f l = some l := by unfold api_Letter_31.f; rw [if_pos (by omega)]
    rw [e]
    simp only [Option.bind_some, rdL l i hi, Int.toNat_natCast]
    exact ev_pos (by omega) (Ev.now _)
end Go.Proofs.Ytofbkpdpgmjllaa.F
