/- What the document's functions of chapter 21 answer: the same as the program's. No condition but sizes. -/
import Derived.Test.YtofbkpdpgmjllaaPoS
import Derived.Test.YtofbkpdpgmjllaaF8
import Derived.Test.YtofbkpdpgmjllaaF7
import Derived.Test.YtofbkpdpgmjllaaF3
import Derived.Test.YtofbkpdpgmjllaaF9
import Derived.Test.YtofbkpdpgmjllaaF10
import Derived.Test.YtofbkpdpgmjllaaF12
import Derived.Test.YtofbkpdpgmjllaaF13
import Derived.Test.YtofbkpdpgmjllaaF15
import Derived.Test.YtofbkpdpgmjllaaF16
import Derived.Test.YtofbkpdpgmjllaaF17
import Derived.Test.YtofbkpdpgmjllaaF14
set_option linter.unusedVariables false
set_option linter.unusedSimpArgs false
namespace Go.Proofs.Ytofbkpdpgmjllaa.F
open Go.RowKit Go.Proofs.YtofbkpdpgmjllaaV.PrintWords Go.Proofs.YtofbkpdpgmjllaaV.PrintLast
theorem up1 (i : Nat) (h : i < 4611686018427387904) : ((i + 1 : Nat) : Int) = wrap64 ((i : Int) + 1) := by rw [wr1 (by omega) (by omega)]; rfl
/-! ### what may be -/
def chk2 (n : Int) (l : List Le) (i : Nat) : Prop := ∀ j, ∀ h : j < l.length, i ≤ j → okL n l[j] ∧ (0 < j → (l[j - 1]'(by omega)).f0 < l[j].f0)
theorem chk2_step (n : Int) (l : List Le) (i : Nat) (hi : i < l.length) : chk2 n l i ↔ (okL n l[i] ∧ (0 < i → (l[i - 1]'(by omega)).f0 < l[i].f0)) ∧ chk2 n l (i + 1) := by
  constructor
  · intro h; exact ⟨h i hi (Nat.le_refl _), fun j hj hij => h j hj (by omega)⟩
  · rintro ⟨h1, h2⟩ j hj hij
    rcases Nat.eq_or_lt_of_le hij with h | h
    · subst h; exact h1
    · exact h2 j hj h
theorem refis_l0 (n : Int) (l : List Le) (hb : l.length < 4611686018427387904) : ∀ (d i : Nat), i + d = l.length →
    ∃ b, Ev (fun k => watchmanref21_Is.l0 k (i : Int) n l) b ∧ (b = true ↔ chk2 n l i) := by
  intro d
  induction d with
  | zero =>
    intro i hi
    refine ⟨true, ?_, ⟨fun _ j hj hij => by omega, fun _ => rfl⟩⟩
    refine Ev.step (fun k => by rw [watchmanref21_Is.l0]) ?_
    exact ev_neg (by omega) (Ev.now _)
  | succ d ih =>
    intro i hi
    have hi2 : i < l.length := by omega
    obtain ⟨b, h1, h2⟩ := ih (i + 1) (by omega)
    rw [up1 i (by omega)] at h1
    rw [chk2_step n l i hi2]
    have bad : Ev (fun k => watchmanref21_Is.j2 k (i : Int) true n l) false := by
      refine Ev.step (fun k => by rw [watchmanref21_Is.j2]) ?_
      exact ev_pos rfl (Ev.now _)
    have good : Ev (fun k => watchmanref21_Is.j2 k (i : Int) false n l) b := by
      refine Ev.step (fun k => by rw [watchmanref21_Is.j2]) ?_
      exact ev_neg Bool.false_ne_true h1
    have tail : ∃ b', Ev (fun k => if l[i].f1 < 0 then (watchmanref21_Is.j2 k (i : Int) true n l) else (if l[i].f1 > 20 then (watchmanref21_Is.j2 k (i : Int) true n l) else (if l[i].f2 < 0 then (watchmanref21_Is.j2 k (i : Int) true n l) else (if l[i].f2 > 20 then (watchmanref21_Is.j2 k (i : Int) true n l) else (watchmanref21_Is.j2 k (i : Int) (decide ((l[i].f3.size : Int) > 2000)) n l))))) b'
        ∧ (b' = true ↔ ((0 ≤ l[i].f1 ∧ l[i].f1 ≤ 20) ∧ (0 ≤ l[i].f2 ∧ l[i].f2 ≤ 20) ∧ l[i].f3.size ≤ 2000) ∧ chk2 n l (i + 1)) := by
      by_cases c1 : l[i].f1 < 0
      · exact ⟨false, ev_pos c1 bad, ⟨fun h => (by cases h), fun h => by omega⟩⟩
      by_cases c2 : l[i].f1 > 20
      · exact ⟨false, ev_neg c1 (ev_pos c2 bad), ⟨fun h => (by cases h), fun h => by omega⟩⟩
      by_cases c3 : l[i].f2 < 0
      · exact ⟨false, ev_neg c1 (ev_neg c2 (ev_pos c3 bad)), ⟨fun h => (by cases h), fun h => by omega⟩⟩
      by_cases c4 : l[i].f2 > 20
      · exact ⟨false, ev_neg c1 (ev_neg c2 (ev_neg c3 (ev_pos c4 bad))), ⟨fun h => (by cases h), fun h => by omega⟩⟩
      by_cases c5 : (l[i].f3.size : Int) > 2000
      · refine ⟨false, ev_neg c1 (ev_neg c2 (ev_neg c3 (ev_neg c4 ?_))), ⟨fun h => (by cases h), fun h => by omega⟩⟩
        rw [decide_eq_true c5]; exact bad
      · refine ⟨b, ev_neg c1 (ev_neg c2 (ev_neg c3 (ev_neg c4 ?_))), h2.trans ⟨fun h => ⟨⟨by omega, by omega, by omega⟩, h⟩, fun h => h.2⟩⟩
        rw [decide_eq_false c5]; exact good
    obtain ⟨b', t1, t2⟩ := tail
    have go : ∀ r, Ev (fun k => if l[i].f0 < 0 then (watchmanref21_Is.j2 k (i : Int) true n l) else (if l[i].f0 ≥ n then (watchmanref21_Is.j2 k (i : Int) true n l) else (if (i : Int) > 0 then (if 0 ≤ (wrap64 ((i : Int) - 1)) then (if (wrap64 ((i : Int) - 1)) < (l.length : Int) then (if ((rd_T35 l (wrap64 ((i : Int) - 1))).f0) ≥ l[i].f0 then (watchmanref21_Is.j2 k (i : Int) true n l) else (if l[i].f1 < 0 then (watchmanref21_Is.j2 k (i : Int) true n l) else (if l[i].f1 > 20 then (watchmanref21_Is.j2 k (i : Int) true n l) else (if l[i].f2 < 0 then (watchmanref21_Is.j2 k (i : Int) true n l) else (if l[i].f2 > 20 then (watchmanref21_Is.j2 k (i : Int) true n l) else (watchmanref21_Is.j2 k (i : Int) (decide ((l[i].f3.size : Int) > 2000)) n l)))))) else (none)) else (none)) else (if l[i].f1 < 0 then (watchmanref21_Is.j2 k (i : Int) true n l) else (if l[i].f1 > 20 then (watchmanref21_Is.j2 k (i : Int) true n l) else (if l[i].f2 < 0 then (watchmanref21_Is.j2 k (i : Int) true n l) else (if l[i].f2 > 20 then (watchmanref21_Is.j2 k (i : Int) true n l) else (watchmanref21_Is.j2 k (i : Int) (decide ((l[i].f3.size : Int) > 2000)) n l)))))))) r → Ev (fun k => watchmanref21_Is.l0 k (i : Int) n l) r := fun r h => by
      refine Ev.step (fun k => by rw [watchmanref21_Is.l0]) ?_
      rw [rdL l i hi2]
      exact ev_pos (by omega) (ev_pos (by omega) h)
    by_cases c1 : l[i].f0 < 0
    · exact ⟨false, go _ (ev_pos c1 bad), ⟨fun h => (by cases h), fun h => by have := h.1.1.1; omega⟩⟩
    by_cases c2 : l[i].f0 ≥ n
    · exact ⟨false, go _ (ev_neg c1 (ev_pos c2 bad)), ⟨fun h => (by cases h), fun h => by have := h.1.1.2.1; omega⟩⟩
    by_cases c3 : (i : Int) > 0
    · have ew : wrap64 ((i : Int) - 1) = ((i - 1 : Nat) : Int) := by rw [wrs (by omega) (by omega)]; omega
      by_cases c4 : (l[i - 1]'(by omega)).f0 ≥ l[i].f0
      · refine ⟨false, go _ (ev_neg c1 (ev_neg c2 (ev_pos c3 (ev_pos (by omega) (ev_pos (by omega) ?_))))), ⟨fun h => (by cases h), fun h => by have := h.1.2 (by omega); omega⟩⟩
        rw [ew, rdL l (i - 1) (by omega)]
        exact ev_pos c4 bad
      · refine ⟨b', go _ (ev_neg c1 (ev_neg c2 (ev_pos c3 (ev_pos (by omega) (ev_pos (by omega) ?_))))), t2.trans ⟨fun h => ⟨⟨⟨by omega, by omega, h.1.1, h.1.2.1, h.1.2.2⟩, fun _ => by omega⟩, h.2⟩, fun h => ⟨h.1.1.2.2, h.2⟩⟩⟩
        rw [ew, rdL l (i - 1) (by omega)]
        exact ev_neg c4 t1
    · exact ⟨b', go _ (ev_neg c1 (ev_neg c2 (ev_neg c3 t1))), t2.trans ⟨fun h => ⟨⟨⟨by omega, by omega, h.1.1, h.1.2.1, h.1.2.2⟩, fun _ => by omega⟩, h.2⟩, fun h => ⟨h.1.1.2.2, h.2⟩⟩⟩
theorem chk2_all (n : Int) (l : List Le) : chk2 n l 0 ↔ (∀ x ∈ l, okL n x) ∧ l.Pairwise (fun a b => a.f0 < b.f0) := by
  constructor
  · intro h
    refine ⟨fun x hx => ?_, ?_⟩
    · obtain ⟨i, hi, rfl⟩ := List.getElem_of_mem hx
      exact (h i hi (Nat.zero_le _)).1
    · rw [List.pairwise_iff_getElem]
      have key : ∀ (d i : Nat) (hi : i + d + 1 < l.length), (l[i]'(by omega)).f0 < (l[i + d + 1]'hi).f0 := by
        intro d
        induction d with
        | zero => intro i hi; exact (h (i + 1) (by omega) (Nat.zero_le _)).2 (by omega)
        | succ d ih =>
          intro i hi
          have h1 := ih i (by omega)
          have h2 := (h (i + (d + 1) + 1) hi (Nat.zero_le _)).2 (by omega)
          simp only [Nat.add_sub_cancel] at h2
          exact Int.lt_trans h1 h2
      intro i j hi hj hij
      have := key (j - i - 1) i (by omega)
      simp only [show i + (j - i - 1) + 1 = j by omega] at this
      exact this
  · rintro ⟨h1, h2⟩ j hj _
    refine ⟨h1 _ (List.getElem_mem hj), fun h0 => ?_⟩
    rw [List.pairwise_iff_getElem] at h2
    exact h2 (j - 1) j (by omega) hj (by omega)
theorem refis_ev (n : Int) (l : List Le) (hb : l.length < 4611686018427387904) : ∃ b, Ev (fun k => watchmanref21_Is.f k n l) b ∧ (b = true ↔ IsP n l) := by
  have bad : Ev (fun k => watchmanref21_Is.j0 k true n l) false := by
    refine Ev.step (fun k => by rw [watchmanref21_Is.j0]) ?_
    exact ev_pos rfl (Ev.now _)
  unfold watchmanref21_Is.f
  by_cases c1 : n < 0
  · exact ⟨false, ev_pos c1 bad, ⟨fun h => (by cases h), fun h => by have := h.1; omega⟩⟩
  by_cases c2 : n > 1000000000
  · exact ⟨false, ev_neg c1 (ev_pos c2 bad), ⟨fun h => (by cases h), fun h => by have := h.2.1; omega⟩⟩
  by_cases c3 : (l.length : Int) > 200
  · refine ⟨false, ev_neg c1 (ev_neg c2 ?_), ⟨fun h => (by cases h), fun h => by have := h.2.2.1; omega⟩⟩
    rw [decide_eq_true c3]; exact bad
  · obtain ⟨b, h1, h2⟩ := refis_l0 n l hb l.length 0 (by omega)
    refine ⟨b, ev_neg c1 (ev_neg c2 ?_), h2.trans ?_⟩
    · rw [decide_eq_false c3]
      refine Ev.step (fun k => by rw [watchmanref21_Is.j0]) ?_
      exact ev_neg Bool.false_ne_true h1
    · rw [chk2_all]
      exact ⟨fun h => ⟨by omega, by omega, by omega, h.1, h.2⟩, fun h => ⟨h.2.2.2.1, h.2.2.2.2⟩⟩
theorem refis_is (n : Int) (l : List Le) (hb : l.length < 4611686018427387904) {b : Bool} (hbi : b = true ↔ IsP n l) : Ev (fun k => watchmanref21_Is.f k n l) b := by
  obtain ⟨c, h1, h2⟩ := refis_ev n l hb
  have : c = b := by
    cases b <;> cases c
    · rfl
    · exact absurd (hbi.2 (h2.1 rfl)) Bool.false_ne_true
    · exact absurd (h2.2 (hbi.1 rfl)) Bool.false_ne_true
    · rfl
  rw [this] at h1; exact h1
/-! ### lists -/
theorem own_is (l : List Le) (h : l.length < 3518437208883) : watchmanref21_Own.f l = some l := by
  unfold watchmanref21_Own.f
  rw [if_pos (by simp only [List.length_nil]; omega)]; rfl
theorem refto_l0 (n t : Int) (l : List Le) (hb : l.length < 1000000) : ∀ (d i : Nat) (acc : List Le), i + d = l.length → acc.length ≤ i →
    Ev (fun k => watchmanref21_To.l0 k t acc (i : Int) n l) (acc ++ (l.drop i).filter (toP t)) := by
  intro d
  induction d with
  | zero =>
    intro i acc hi ha
    rw [List.drop_eq_nil_of_le (by omega), List.filter_nil, List.append_nil]
    refine Ev.step (fun k => by rw [watchmanref21_To.l0]) ?_
    exact ev_neg (by omega) (Ev.now _)
  | succ d ih =>
    intro i acc hi ha
    have hi2 : i < l.length := by omega
    rw [List.drop_eq_getElem_cons hi2, List.filter_cons]
    refine Ev.step (fun k => by rw [watchmanref21_To.l0]) ?_
    rw [rdL l i hi2]
    refine ev_pos (by omega) (ev_pos (by omega) ?_)
    by_cases c : l[i].f2 = t
    · rw [if_pos (show toP t l[i] = true from decide_eq_true c)]
      have h := ih (i + 1) (acc ++ [l[i]]) (by omega) (by rw [List.length_append, List.length_singleton]; omega)
      rw [up1 i (by omega), List.append_assoc] at h
      exact ev_pos c (ev_pos (by omega) h)
    · rw [if_neg (show ¬ toP t l[i] = true from fun h => c (of_decide_eq_true h))]
      have h := ih (i + 1) acc (by omega) (by omega)
      rw [up1 i (by omega)] at h
      exact ev_neg c h
theorem refto_ev (n t : Int) (l : List Le) (hb : l.length < 1000000) : Ev (fun k => watchmanref21_To.f k n l t) (l.filter (toP t)) := by
  unfold watchmanref21_To.f
  exact refto_l0 n t l hb l.length 0 [] (by omega) (Nat.le_refl _)
def neP (a : Int) (x : Le) : Bool := decide (¬ x.f0 = a)
theorem without_l0 (a : Int) (l : List Le) (hb : l.length < 1000000) : ∀ (d i : Nat) (acc : List Le), i + d = l.length → acc.length ≤ i →
    Ev (fun k => watchmanref21_without.l0 k l a acc (i : Int)) (acc ++ (l.drop i).filter (neP a)) := by
  intro d
  induction d with
  | zero =>
    intro i acc hi ha
    rw [List.drop_eq_nil_of_le (by omega), List.filter_nil, List.append_nil]
    refine Ev.step (fun k => by rw [watchmanref21_without.l0]) ?_
    exact ev_neg (by omega) (Ev.now _)
  | succ d ih =>
    intro i acc hi ha
    have hi2 : i < l.length := by omega
    rw [List.drop_eq_getElem_cons hi2, List.filter_cons]
    refine Ev.step (fun k => by rw [watchmanref21_without.l0]) ?_
    rw [rdL l i hi2]
    refine ev_pos (by omega) (ev_pos (by omega) ?_)
    by_cases c : l[i].f0 = a
    · rw [if_neg (show ¬ neP a l[i] = true from fun h => of_decide_eq_true h c)]
      have h := ih (i + 1) acc (by omega) (by omega)
      rw [up1 i (by omega)] at h
      exact ev_pos c h
    · rw [if_pos (show neP a l[i] = true from decide_eq_true c)]
      have h := ih (i + 1) (acc ++ [l[i]]) (by omega) (by rw [List.length_append, List.length_singleton]; omega)
      rw [up1 i (by omega), List.append_assoc] at h
      exact ev_neg c (ev_pos (by omega) h)
theorem without_ev (a : Int) (l : List Le) (hb : l.length < 1000000) : Ev (fun k => watchmanref21_without.f k l a) (l.filter (neP a)) := by
  unfold watchmanref21_without.f
  exact without_l0 a l hb l.length 0 [] (by omega) (Nat.le_refl _)
theorem ne_all {l : List Le} {a : Int} (h : ∀ x ∈ l, x.f0 ≠ a) : l.filter (neP a) = l :=
  List.filter_eq_self.2 fun x hx => decide_eq_true (h x hx)
theorem without_first (t : Int) : ∀ (l : List Le) (x : Le) (r : List Le), l.Pairwise (fun a b => a.f0 < b.f0) → l.filter (toP t) = x :: r → l.filter (neP x.f0) = l.eraseP (toP t)
  | [], _, _, _, h => by cases h
  | y :: l, x, r, hp, h => by
    obtain ⟨h1, h2⟩ := List.pairwise_cons.1 hp
    rw [List.filter_cons] at h
    by_cases c : toP t y = true
    · rw [if_pos c] at h
      obtain ⟨rfl, _⟩ := List.cons.inj h
      rw [List.eraseP_cons_of_pos c, List.filter_cons, if_neg (show ¬ neP y.f0 y = true from fun e => of_decide_eq_true e rfl)]
      exact ne_all fun z hz => by have := h1 z hz; omega
    · rw [if_neg c] at h
      have hx : x ∈ l := (List.mem_filter.1 (by rw [h]; exact List.mem_cons_self : x ∈ l.filter (toP t))).1
      have := h1 x hx
      rw [List.eraseP_cons_of_neg c, List.filter_cons, if_pos (show neP x.f0 y = true from decide_eq_true (by omega)), without_first t l x r h2 h]
theorem without_at (a : Int) : ∀ (l : List Le) (i : Nat) (hi : i < l.length), l.Pairwise (fun a b => a.f0 < b.f0) → l[i].f0 = a → l.filter (neP a) = l.eraseIdx i
  | [], _, hi, _, _ => absurd hi (Nat.not_lt_zero _)
  | y :: l, 0, hi, hp, h => by
    obtain ⟨h1, h2⟩ := List.pairwise_cons.1 hp
    rw [List.getElem_cons_zero] at h
    rw [List.eraseIdx_cons_zero, List.filter_cons, if_neg (show ¬ neP a y = true from fun e => of_decide_eq_true e h)]
    exact ne_all fun z hz => by have := h1 z hz; omega
  | y :: l, i + 1, hi, hp, h => by
    obtain ⟨h1, h2⟩ := List.pairwise_cons.1 hp
    have hi2 : i < l.length := by rw [List.length_cons] at hi; omega
    rw [List.getElem_cons_succ] at h
    have := h1 _ (List.getElem_mem hi2)
    rw [List.eraseIdx_cons_succ, List.filter_cons, if_pos (show neP a y = true from decide_eq_true (by omega)), without_at a l i hi2 h2 h]
/-! ### what is sent -/
theorem refsend_l2 (f t : Int) (ss : List ByteArray) (j : Nat) (n : Int) (l : List Le) (r : Int × List Le × Int × Int) (k0 : Int) (hb : l.length < 1000) (hk : 0 ≤ k0 ∧ k0 < 1000)
    (hp : l.Pairwise (fun a b => a.f0 < b.f0)) (h : Ev (fun k => watchmanref21_Send.l2 k f t ss (wrap64 (k0 + (roomN t l : Int))) (j : Int) n (roomL t l)) r) :
    ∀ (d m : Nat), m + d = roomN t l → Ev (fun k => watchmanref21_Send.l2 k f t ss (wrap64 (k0 + (m : Int))) (j : Int) n (dropTo t m l)) r := by
  intro d
  induction d with
  | zero =>
    intro m hm
    obtain rfl : m = roomN t l := by omega
    exact h
  | succ d ih =>
    intro m hm
    have h1 := ih (m + 1) (by omega)
    have hrl : roomN t l = cnt t l - 19 := rfl
    have hcl := cnt_le t l
    have hlen := dropTo_len t l m (by omega)
    have hcn := dropTo_cnt t l m
    have hl20 : ((dropTo t m l).filter (toP t)).length ≥ 20 := by unfold cnt at hcn hrl; omega
    refine Ev.step (fun k => by rw [watchmanref21_Send.l2]) ?_
    have hto := refto_ev n t (dropTo t m l) (by omega)
    refine Ev.bind hto (ev_pos (by omega) (Ev.bind hto (ev_pos (by omega) ?_)))
    cases e : (dropTo t m l).filter (toP t) with
    | nil => rw [e, List.length_nil] at hl20; omega
    | cons x rest =>
      have er : rd_T35 (x :: rest) 0 = x := rdL (x :: rest) 0 (by rw [List.length_cons]; omega)
      rw [er]
      have hw := without_ev x.f0 (dropTo t m l) (by omega)
      rw [without_first t _ x rest (hp.sublist (dropTo_sub t l m)) e, dropTo_erase t l m (by omega)] at hw
      refine Ev.bind hw ?_
      have ew : wrap64 (wrap64 (k0 + (m : Int)) + 1) = wrap64 (k0 + ((m + 1 : Nat) : Int)) := by
        rw [wrs (x := k0 + (m : Int)) (by omega) (by omega)]; congr 1; omega
      rw [ew]; exact h1
theorem refsend_l1 (f t : Int) (ss : List ByteArray) (hss : ss.length ≤ 60) (hf : 0 ≤ f ∧ f ≤ 20) (ht : 0 ≤ t ∧ t ≤ 20) (hb : ∀ s ∈ ss, s.size ≤ 2000) :
    ∀ (d j : Nat) (n : Int) (l : List Le) (k0 : Int), j + d = ss.length → IsP n l → n + d ≤ 1000000000 → 0 ≤ k0 → k0 + l.length ≤ 300 + j →
      Ev (fun k => watchmanref21_Send.l1 k f t ss k0 (j : Int) n l) ((sendL f t n l k0 (ss.drop j)).1, (sendL f t n l k0 (ss.drop j)).2.1, (sendL f t n l k0 (ss.drop j)).2.2, 0) := by
  intro d
  induction d with
  | zero =>
    intro j n l k0 hj hw hn hk hkl
    rw [List.drop_eq_nil_of_le (by omega)]
    refine Ev.step (fun k => by rw [watchmanref21_Send.l1]) ?_
    exact ev_neg (by omega) (Ev.now _)
  | succ d ih =>
    intro j n l k0 hj hw hn hk hkl
    have hjl : j < ss.length := by omega
    have hl200 := hw.2.2.1
    have r1 := roomL_len t l
    have r2 := roomL_cnt t l
    have r3 := roomL_sub t l
    have e1 : wrap64 (n + 1) = n + 1 := wrs (by have := hw.1; omega) (by omega)
    have e2 : wrap64 (k0 + (roomN t l : Int)) = k0 + roomN t l := wrs (by omega) (by omega)
    have e3 : wrap64 (k0 + (roomN t l : Int) + 1) = k0 + roomN t l + 1 := wrs (by omega) (by omega)
    rw [List.drop_eq_getElem_cons hjl]
    unfold sendL
    refine Ev.step (fun k => by rw [watchmanref21_Send.l1]) ?_
    refine ev_pos (by omega) ?_
    have key : ∀ r, Ev (fun k => watchmanref21_Send.l2 k f t ss (wrap64 (k0 + (roomN t l : Int))) (j : Int) n (roomL t l)) r → Ev (fun k => watchmanref21_Send.l2 k f t ss k0 (j : Int) n l) r := fun r h => by
      have := refsend_l2 f t ss j n l r k0 (by omega) ⟨hk, by omega⟩ hw.2.2.2.2 h (roomN t l) 0 (by omega)
      rw [dropTo_zero, wrs (x := k0 + ((0 : Nat) : Int)) (by omega) (by omega)] at this
      simpa using this
    have hto := refto_ev n t (roomL t l) (by omega)
    have h20 : ¬ (((roomL t l).filter (toP t)).length : Int) ≥ 20 := by unfold cnt at r2; omega
    split
    · rename_i hlt
      have h := ih (j + 1) (n + 1) (roomL t l ++ [⟨n, f, t, ss[j]⟩]) (k0 + roomN t l) (by omega) ((hw.sub r3).snoc hlt (by omega) hf ht (hb _ (List.getElem_mem hjl))) (by omega) (by omega) (by rw [List.length_append, List.length_singleton]; omega)
      refine key _ ?_
      refine Ev.step (fun k => by rw [watchmanref21_Send.l2]) ?_
      refine Ev.bind hto (ev_neg h20 (ev_neg (by omega) (ev_pos (by omega) (ev_pos (by omega) (ev_pos (by omega) ?_)))))
      rw [up1 j (by omega)] at h
      rw [e1, e2, rdB ss j hjl]
      exact h
    · have h := ih (j + 1) (n + 1) (roomL t l) (k0 + roomN t l + 1) (by omega) ((hw.sub r3).succ (by omega)) (by omega) (by omega) (by omega)
      refine key _ ?_
      refine Ev.step (fun k => by rw [watchmanref21_Send.l2]) ?_
      refine Ev.bind hto (ev_neg h20 (ev_pos (by omega) ?_))
      rw [up1 j (by omega)] at h
      rw [e1, e2, e3]
      exact h
theorem refsend_l0 (f t : Int) (ss : List ByteArray) (n : Int) (l : List Le) (hss : ss.length ≤ 60) : ∀ (d i : Nat), i + d = ss.length → ∀ r,
    ((∀ s ∈ ss.drop i, s.size ≤ 2000) → Ev (fun k => if n > (wrap64 (1000000000 - (ss.length : Int))) then (some (0, ([] : List Le), 0, 2)) else ((watchmanref21_Own.f l).bind fun t136 => (watchmanref21_Send.l1 k f t ss 0 0 n t136))) r) →
    ((¬ ∀ s ∈ ss.drop i, s.size ≤ 2000) → r = (0, [], 0, 1)) → Ev (fun k => watchmanref21_Send.l0 k f t ss (i : Int) n l) r := by
  intro d
  induction d with
  | zero =>
    intro i hi r h1 h2
    refine Ev.step (fun k => by rw [watchmanref21_Send.l0]) ?_
    refine ev_neg (by omega) (h1 ?_)
    rw [List.drop_eq_nil_of_le (by omega)]; intro s hs; cases hs
  | succ d ih =>
    intro i hi r h1 h2
    have hi2 : i < ss.length := by omega
    rw [List.drop_eq_getElem_cons hi2] at h1 h2
    refine Ev.step (fun k => by rw [watchmanref21_Send.l0]) ?_
    rw [rdB ss i hi2]
    refine ev_pos (by omega) (ev_pos (by omega) ?_)
    by_cases c : (ss[i].size : Int) > 2000
    · rw [h2 (fun h => by have := h _ List.mem_cons_self; omega)]
      exact ev_pos c (Ev.now _)
    · refine ev_neg c ?_
      have h := ih (i + 1) (by omega) r (fun h => h1 (fun s hs => by
        rcases List.mem_cons.1 hs with rfl | hs
        · omega
        · exact h s hs)) (fun h => h2 (fun h3 => h fun s hs => h3 s (List.mem_cons_of_mem _ hs)))
      rw [up1 i (by omega)] at h
      exact h
theorem refsend_ev (n : Int) (l : List Le) (f t : Int) (ss : List ByteArray) (hl : l.length ≤ 1000) (hss : ss.length ≤ 60) {r : Int × List Le × Int × Int} (hr : SendIs n l f t ss r) : Ev (fun k => watchmanref21_Send.f k n l f t ss) r := by
  unfold watchmanref21_Send.f
  obtain ⟨b, h1, h2⟩ := refis_ev n l (by omega)
  refine Ev.bind h1 ?_
  have bad : Ev (fun k => watchmanref21_Send.j0 k f t ss true n l) (0, [], 0, 1) := by
    refine Ev.step (fun k => by rw [watchmanref21_Send.j0]) ?_
    exact ev_pos rfl (Ev.now _)
  have no : ∀ h : ¬ okS n l f t ss, r = (0, [], 0, 1) := fun h => by
    rcases hr with ⟨_, h3⟩ | ⟨h3, _⟩ | ⟨h3, _⟩
    · exact h3
    · exact absurd h3 h
    · exact absurd h3 h
  cases b with
  | false =>
    rw [no (fun h => Bool.false_ne_true (h2.2 h.1))]
    exact ev_neg Bool.false_ne_true bad
  | true =>
    have hw := h2.1 rfl
    refine ev_pos rfl ?_
    by_cases c1 : f < 0
    · rw [no (fun h => by have := h.2.1; omega)]; exact ev_pos c1 bad
    by_cases c2 : f > 20
    · rw [no (fun h => by have := h.2.1; omega)]; exact ev_neg c1 (ev_pos c2 bad)
    by_cases c3 : t < 0
    · rw [no (fun h => by have := h.2.2.1; omega)]; exact ev_neg c1 (ev_neg c2 (ev_pos c3 bad))
    refine ev_neg c1 (ev_neg c2 (ev_neg c3 ?_))
    by_cases c4 : t > 20
    · rw [no (fun h => by have := h.2.2.1; omega), decide_eq_true c4]; exact bad
    · rw [decide_eq_false c4]
      refine Ev.step (fun k => by rw [watchmanref21_Send.j0]) ?_
      refine ev_neg Bool.false_ne_true (refsend_l0 f t ss n l hss ss.length 0 (by omega) r ?_ ?_)
      · rw [List.drop_zero]
        intro hs
        have hok : okS n l f t ss := ⟨hw, ⟨by omega, by omega⟩, ⟨by omega, by omega⟩, hs⟩
        have ew : wrap64 (1000000000 - (ss.length : Int)) = 1000000000 - (ss.length : Int) := wrs (by omega) (by omega)
        rw [ew, own_is l (by omega)]
        simp only [Option.bind_some]
        rcases hr with ⟨h3, _⟩ | ⟨_, h4, h3⟩ | ⟨_, h4, _, _, h3⟩
        · exact absurd hok h3
        · rw [h3]; exact ev_pos (by omega) (Ev.now _)
        · rw [h3]
          have hl200 := hw.2.2.1
          have h := refsend_l1 f t ss hss hok.2.1 hok.2.2.1 hs ss.length 0 n l 0 (by omega) hw (by omega) (by omega) (by omega)
          rw [List.drop_zero] at h
          exact ev_neg (by omega) h
      · rw [List.drop_zero]
        intro hs
        exact no (fun h => hs h.2.2.2)
theorem sent_len {n : Int} {l : List Le} {f t : Int} {ss : List ByteArray} {r : Int × List Le × Int × Int} (hr : SendIs n l f t ss r) : r.2.1.length ≤ 1000 := by
  rcases hr with ⟨_, rfl⟩ | ⟨_, _, rfl⟩ | ⟨_, _, _, h, _⟩
  · exact Nat.zero_le _
  · exact Nat.zero_le _
  · have := h.is.2.2.1; omega
/-! ### who is found, what is taken -/
theorem reffind_none (n : Int) (l : List Le) (a : Int) (hb : l.length < 4611686018427387904) (hn : ∀ x ∈ l, x.f0 ≠ a) : ∀ (d i : Nat), i + d = l.length → Ev (fun k => watchmanref21_find.l0 k a (i : Int) n l) (0, 0, 0, (⟨#[]⟩ : ByteArray), false) := by
  intro d
  induction d with
  | zero =>
    intro i hi
    refine Ev.step (fun k => by rw [watchmanref21_find.l0]) ?_
    exact ev_neg (by omega) (Ev.now _)
  | succ d ih =>
    intro i hi
    have hi2 : i < l.length := by omega
    have h := ih (i + 1) (by omega)
    rw [up1 i (by omega)] at h
    refine Ev.step (fun k => by rw [watchmanref21_find.l0]) ?_
    rw [rdL l i hi2]
    exact ev_pos (by omega) (ev_pos (by omega) (ev_neg (hn _ (List.getElem_mem hi2)) h))
theorem reffind_some (n : Int) (l : List Le) (a : Int) (hw : IsP n l) (i : Nat) (hi : i < l.length) (ha : l[i].f0 = a) : ∀ (d j : Nat), j + d = i → Ev (fun k => watchmanref21_find.l0 k a (j : Int) n l) (l[i].f0, l[i].f1, l[i].f2, l[i].f3, true) := by
  have hl200 := hw.2.2.1
  intro d
  induction d with
  | zero =>
    intro j hj
    obtain rfl : j = i := by omega
    refine Ev.step (fun k => by rw [watchmanref21_find.l0]) ?_
    rw [rdL l j hi]
    exact ev_pos (by omega) (ev_pos (by omega) (ev_pos ha (Ev.now _)))
  | succ d ih =>
    intro j hj
    have hj2 : j < l.length := by omega
    have h := ih (j + 1) (by omega)
    rw [up1 j (by omega)] at h
    refine Ev.step (fun k => by rw [watchmanref21_find.l0]) ?_
    rw [rdL l j hj2]
    exact ev_pos (by omega) (ev_pos (by omega) (ev_neg (fun e => hw.ne hj2 hi (by omega) (by rw [e, ha])) h))
theorem reftake_ev (n : Int) (l : List Le) (a : Int) (hb : l.length < 1000000) {r : Int × List Le × Int × Int × Int × ByteArray × Int} (hr : TakeIs n l a r) : Ev (fun k => watchmanref21_Take.f k n l a) r := by
  unfold watchmanref21_Take.f
  rcases hr with ⟨hw, rfl⟩ | ⟨hw, hn, rfl⟩ | ⟨hw, i, hi, ha, rfl⟩
  · exact Ev.bind (refis_is n l (by omega) (b := false) ⟨fun h => (by cases h), fun h => absurd h hw⟩) (ev_neg Bool.false_ne_true (Ev.now _))
  · refine Ev.bind (refis_is n l (by omega) (b := true) ⟨fun _ => hw, fun _ => rfl⟩) (ev_pos rfl (Ev.bind (reffind_none n l a (by omega) hn l.length 0 (by omega)) (ev_neg Bool.false_ne_true (Ev.now _))))
  · refine Ev.bind (refis_is n l (by omega) (b := true) ⟨fun _ => hw, fun _ => rfl⟩) (ev_pos rfl (Ev.bind (reffind_some n l a hw i hi ha i 0 (by omega)) (ev_pos rfl ?_)))
    have h := without_ev a l hb
    rw [without_at a l i hi hw.2.2.2.2 ha] at h
    exact Ev.bind h (Ev.now _)
theorem bodies_one (n : Int) (l : List Le) (hw : IsP n l) (i : Nat) (hi : i < l.length) : okS n l l[i].f1 l[i].f2 [l[i].f3] := by
  obtain ⟨_, _, h3, h4, h5⟩ := hw.2.2.2.1 _ (List.getElem_mem hi)
  exact ⟨hw, h3, h4, fun s hs => by rw [List.mem_singleton] at hs; rw [hs]; exact h5⟩
/-- What is sent again: the program and the document answer the same. -/
theorem again_both (n : Int) (l : List Le) (a : Int) (hb : l.length ≤ 1000) : ∃ r, Ev (fun k => post_Again.f k n l a) r ∧ Ev (fun k => watchmanref21_Again.f k n l a) r ∧ r.2.1.length ≤ 1000 := by
  obtain ⟨q, q1, q2⟩ := find_ev n l a (by omega)
  unfold watchmanref21_Again.f post_Again.f
  rcases q2 with ⟨hw, rfl⟩ | ⟨hw, hn, rfl⟩ | ⟨hw, i, hi, ha, rfl⟩
  · exact ⟨_, Ev.bind q1 (ev_neg (by decide) (Ev.now _)), Ev.bind (refis_is n l (by omega) (b := false) ⟨fun h => (by cases h), fun h => absurd h hw⟩) (ev_neg Bool.false_ne_true (Ev.now _)), Nat.zero_le _⟩
  · exact ⟨_, Ev.bind q1 (ev_neg (by decide) (Ev.now _)), Ev.bind (refis_is n l (by omega) (b := true) ⟨fun _ => hw, fun _ => rfl⟩) (ev_pos rfl (Ev.bind (reffind_none n l a (by omega) hn l.length 0 (by omega)) (ev_neg Bool.false_ne_true (Ev.now _)))), Nat.zero_le _⟩
  · obtain ⟨s, s1, s2⟩ := send_ev n l l[i].f1 l[i].f2 [l[i].f3] (by omega)
    refine ⟨(s.1, s.2.1, s.2.2.1, s.2.2.2), ?_, ?_, sent_len s2⟩
    · refine Ev.bind q1 (ev_pos rfl (ev_pos (by simp only; omega) (ev_pos (by simp only; omega) ?_)))
      simp only [rdL l i hi]
      exact Ev.bind s1 (Ev.now _)
    · refine Ev.bind (refis_is n l (by omega) (b := true) ⟨fun _ => hw, fun _ => rfl⟩) (ev_pos rfl (Ev.bind (reffind_some n l a hw i hi ha i 0 (by omega)) (ev_pos rfl ?_)))
      exact Ev.bind (refsend_ev n l l[i].f1 l[i].f2 [l[i].f3] hb (by simp) s2) (Ev.now _)
/-! ### who is left -/
def onlyL (ks : List Int) (l : List Le) : List Le := l.filter (fun x => ks.contains x.f2)
theorem refonly_l1 (n : Int) (l : List Le) (ks : List Int) (hk : ks.length < 1000000000) (i : Nat) (hi : i < l.length) (acc : List Le) (ha : acc.length ≤ i) (hb : l.length < 1000000) (r : Int × List Le × Int)
    (h : Ev (fun k => watchmanref21_Only.l0 k ks ((i + 1 : Nat) : Int) n l n (if ks.contains l[i].f2 = true then acc ++ [l[i]] else acc)) r) :
    ∀ (d j : Nat) (q : Bool), j + d = ks.length → ((q = true ∨ l[i].f2 ∈ ks.drop j) ↔ ks.contains l[i].f2 = true) → Ev (fun k => watchmanref21_Only.l1 k ks (i : Int) q (j : Int) n l n acc) r := by
  rw [up1 i (by omega)] at h
  intro d
  induction d with
  | zero =>
    intro j q hj hq
    rw [List.drop_eq_nil_of_le (by omega)] at hq
    refine Ev.step (fun k => by rw [watchmanref21_Only.l1]) ?_
    refine ev_neg (by omega) ?_
    cases q with
    | true =>
      rw [if_pos (hq.1 (.inl rfl))] at h
      rw [rdL l i hi]
      exact ev_pos rfl (ev_pos (by omega) (ev_pos (by omega) (ev_pos (by omega) h)))
    | false =>
      rw [if_neg (fun e => by rcases hq.2 e with h2 | h2 <;> cases h2)] at h
      exact ev_neg Bool.false_ne_true h
  | succ d ih =>
    intro j q hj hq
    have hj2 : j < ks.length := by omega
    rw [List.drop_eq_getElem_cons hj2] at hq
    refine Ev.step (fun k => by rw [watchmanref21_Only.l1]) ?_
    refine ev_pos (by omega) ?_
    cases q with
    | true =>
      have h2 := ih (j + 1) true (by omega) ⟨fun _ => hq.1 (.inl rfl), fun _ => .inl rfl⟩
      rw [up1 j (by omega)] at h2
      exact ev_pos rfl h2
    | false =>
      refine ev_neg Bool.false_ne_true (ev_pos (by omega) (ev_pos (by omega) (ev_pos (by omega) ?_)))
      rw [rdI ks j hj2, rdL l i hi]
      have h2 := ih (j + 1) (ks[j] == l[i].f2) (by omega) (by
        rw [← hq, List.mem_cons, beq_iff_eq]
        constructor
        · rintro (h | h)
          · exact .inr (.inl h.symm)
          · exact .inr (.inr h)
        · rintro (h | h | h)
          · cases h
          · exact .inl h.symm
          · exact .inr h)
      rw [up1 j (by omega)] at h2
      exact h2
theorem refonly_l0 (n : Int) (l : List Le) (ks : List Int) (hk : ks.length < 1000000000) (hb : l.length < 1000000) : ∀ (d i : Nat) (acc : List Le), i + d = l.length → acc.length ≤ i →
    Ev (fun k => watchmanref21_Only.l0 k ks (i : Int) n l n acc) (n, acc ++ onlyL ks (l.drop i), 0) := by
  intro d
  induction d with
  | zero =>
    intro i acc hi ha
    rw [List.drop_eq_nil_of_le (by omega)]
    unfold onlyL
    rw [List.filter_nil, List.append_nil]
    refine Ev.step (fun k => by rw [watchmanref21_Only.l0]) ?_
    exact ev_neg (by omega) (Ev.now _)
  | succ d ih =>
    intro i acc hi ha
    have hi2 : i < l.length := by omega
    refine Ev.step (fun k => by rw [watchmanref21_Only.l0]) ?_
    refine ev_pos (by omega) ?_
    have e : acc ++ onlyL ks (l.drop i) = (if ks.contains l[i].f2 = true then acc ++ [l[i]] else acc) ++ onlyL ks (l.drop (i + 1)) := by
      rw [List.drop_eq_getElem_cons hi2]
      unfold onlyL
      rw [List.filter_cons]
      split
      · rw [List.append_assoc]; rfl
      · rfl
    rw [e]
    refine refonly_l1 n l ks hk i hi2 acc ha hb _ (ih (i + 1) _ (by omega) ?_) ks.length 0 false (by omega) (by rw [List.drop_zero, List.contains_iff_mem]; exact ⟨fun h => h.resolve_left (fun e => by cases e), .inr⟩)
    split
    · rw [List.length_append, List.length_singleton]; omega
    · omega
theorem only_both (n : Int) (l : List Le) (ks : List Int) (hk : ks.length < 1000000000) (hb : l.length ≤ 1000) : ∃ r, Ev (fun k => post_Only.f k n l ks) r ∧ Ev (fun k => watchmanref21_Only.f k n l ks) r ∧ r.2.1.length ≤ 1000 := by
  obtain ⟨q, q1, q2⟩ := is_ev n l (by omega)
  have q3 := refis_is n l (by omega) q2
  cases q with
  | false =>
    refine ⟨(0, [], 1), ?_, ?_, Nat.zero_le _⟩
    · unfold post_Only.f
      exact Ev.bind q1 (ev_pos (by omega) (ev_neg Bool.false_ne_true (Ev.now _)))
    · unfold watchmanref21_Only.f
      exact Ev.bind q3 (ev_neg Bool.false_ne_true (Ev.now _))
  | true =>
    refine ⟨(n, onlyL ks l, 0), ?_, ?_, Nat.le_trans (List.length_filter_le _ _) hb⟩
    · unfold post_Only.f onlyL
      exact Ev.bind q1 (ev_pos (by omega) (ev_pos rfl (Ev.now _)))
    · unfold watchmanref21_Only.f
      have h := refonly_l0 n l ks hk (by omega) l.length 0 [] (by omega) (Nat.le_refl _)
      rw [List.drop_zero, List.nil_append] at h
      exact Ev.bind q3 (ev_pos rfl h)
/-! ### the same -/
theorem same_l0 (l : List Le) (hb : l.length < 4611686018427387904) : ∀ (d i : Nat), i + d = l.length → Ev (fun k => watchmanref21_SameLetters.l0 k l l (i : Int)) true := by
  intro d
  induction d with
  | zero =>
    intro i hi
    refine Ev.step (fun k => by rw [watchmanref21_SameLetters.l0]) ?_
    exact ev_neg (by omega) (Ev.now _)
  | succ d ih =>
    intro i hi
    have h1 := ih (i + 1) (by omega)
    rw [up1 i (by omega)] at h1
    refine Ev.step (fun k => by rw [watchmanref21_SameLetters.l0]) ?_
    exact ev_pos (by omega) (ev_pos (by omega) (ev_pos (by omega) (ev_neg (by simp) h1)))
theorem same_ev (l : List Le) (hb : l.length < 4611686018427387904) : Ev (fun k => watchmanref21_SameLetters.f k l l) true := by
  unfold watchmanref21_SameLetters.f
  exact ev_pos rfl (same_l0 l hb l.length 0 (by omega))
theorem sames_ev (n : Int) (l : List Le) (hb : l.length < 4611686018427387904) : Ev (fun k => watchmanref21_Same.f k n l n l) true := by
  unfold watchmanref21_Same.f
  exact ev_pos rfl (Ev.bind (same_ev l hb) (Ev.now _))
end Go.Proofs.Ytofbkpdpgmjllaa.F
