/- What the functions of chapter 23 compute of votes: too many or not, the best one, one put among them. No condition but sizes. -/
import Derived.Test.YtncoccpgdgdknaaM
import Derived.Test.YtncoccpgdgdknaaJ
import Derived.Test.YtncoccpgdgdknaaF6
import Derived.Test.YtncoccpgdgdknaaF8
import Derived.Test.YtncoccpgdgdknaaF5
import Derived.Test.YtncoccpgdgdknaaF1
namespace Go.Proofs.Ytncoccpgdgdknaa.F
open Go.RowKit Go.Proofs.YtncoccpgdgdknaaV.PrintWords Go.Proofs.YtncoccpgdgdknaaV.PrintLast
theorem rdV (l : List S36) (j : Nat) (h : j < l.length) : rd_T36 l (j : Int) = l[j] := by
  simp [rd_T36, List.getD_eq_getElem?_getD, List.getElem?_eq_getElem h]
/-! ### what is looked at -/
theorem big_l0 (l : List S36) (hb : l.length < 4611686018427387904) (hr : ∀ x ∈ l, x.f3.length < 4611686018427387904) : ∀ (d i : Nat), i + d = l.length →
    ∃ b, Ev (fun k => watchmanref23_Big.l0 k l (i : Int)) b ∧ (b = false → l.length ≤ 20 ∧ ∀ x ∈ l.drop i, x.f3.length ≤ 60) := by
  intro d
  induction d with
  | zero =>
    intro i hi
    refine ⟨decide ((l.length : Int) > 20), ?_, fun h => ⟨by have := of_decide_eq_false h; omega, by rw [List.drop_eq_nil_of_le (by omega)]; simp⟩⟩
    refine Ev.step (fun k => by rw [watchmanref23_Big.l0]) ?_
    refine ev_neg (by omega) ?_
    refine Ev.step (fun k => by rw [watchmanref23_Big.j1]) ?_
    exact ev_neg (by decide) (Ev.now _)
  | succ d ih =>
    intro i hi
    by_cases h20 : (l.length : Int) ≤ 20
    · have hi2 : i < l.length := by omega
      obtain ⟨s, h1, h2⟩ := short_ev l[i].f3 (by have := hr _ (List.getElem_mem hi2); omega)
      obtain ⟨b, h3, h4⟩ := ih (i + 1) (by omega)
      cases s with
      | true =>
        refine ⟨b, ?_, fun h => ⟨(h4 h).1, ?_⟩⟩
        · refine Ev.step (fun k => by rw [watchmanref23_Big.l0]) ?_
          refine ev_pos (by omega) ?_
          rw [decide_eq_true h20]
          refine Ev.step (fun k => by rw [watchmanref23_Big.j1]) ?_
          refine ev_pos rfl ?_
          refine ev_pos (by omega) ?_
          refine ev_pos (by omega) ?_
          rw [rdV l i hi2]
          refine Ev.bind h1 ?_
          refine ev_pos rfl ?_
          rw [wr1 (by omega) (by omega)]
          exact h3
        · rw [List.drop_eq_getElem_cons hi2]
          intro x hx
          rcases List.mem_cons.1 hx with rfl | hx
          · exact h2 rfl
          · exact (h4 h).2 x hx
      | false =>
        refine ⟨true, ?_, fun h => by cases h⟩
        refine Ev.step (fun k => by rw [watchmanref23_Big.l0]) ?_
        refine ev_pos (by omega) ?_
        rw [decide_eq_true h20]
        refine Ev.step (fun k => by rw [watchmanref23_Big.j1]) ?_
        refine ev_pos rfl ?_
        refine ev_pos (by omega) ?_
        refine ev_pos (by omega) ?_
        rw [rdV l i hi2]
        refine Ev.bind h1 ?_
        exact ev_neg (by decide) (Ev.now _)
    · refine ⟨true, ?_, fun h => by cases h⟩
      refine Ev.step (fun k => by rw [watchmanref23_Big.l0]) ?_
      refine ev_pos (by omega) ?_
      rw [decide_eq_false h20]
      refine Ev.step (fun k => by rw [watchmanref23_Big.j1]) ?_
      refine ev_neg (by decide) ?_
      rw [decide_eq_true (by omega : (l.length : Int) > 20)]
      exact Ev.now _
theorem big_ev (l : List S36) (hb : l.length < 4611686018427387904) (hr : ∀ x ∈ l, x.f3.length < 4611686018427387904) :
    ∃ b, Ev (fun k => watchmanref23_Big.f k l) b ∧ (b = false → l.length ≤ 20 ∧ ∀ x ∈ l, x.f3.length ≤ 60) := by
  obtain ⟨b, h1, h2⟩ := big_l0 l hb hr l.length 0 (by omega)
  exact ⟨b, h1, fun h => by simpa using h2 h⟩
/-! ### the best vote -/
def worse (x b : S36) : Prop := x.f1 < b.f1 ∨ (x.f1 = b.f1 ∧ x.f3.length ≤ b.f3.length)
instance (x b : S36) : Decidable (worse x b) := by unfold worse; infer_instance
def step (s : S36 × Bool) (x : S36) : S36 × Bool := if s.2 = true ∧ worse x s.1 then s else (x, true)
theorem against_is (s : S36) (y : Bool) (x : S36) : log_candidate_against.f s.f0 s.f1 s.f2 s.f3 y x.f0 x.f1 x.f2 x.f3 = some ((step (s, y) x).1.f0, (step (s, y) x).1.f1, (step (s, y) x).1.f2, (step (s, y) x).1.f3, (step (s, y) x).2) := by
  unfold log_candidate_against.f step worse log_vote_many.f
  simp only [Option.bind_some]
  cases y with
  | false => simp
  | true =>
    simp only [if_true, true_and]
    by_cases h1 : x.f1 < s.f1
    · rw [if_pos h1, if_pos (.inl h1)]
    · rw [if_neg h1]
      by_cases h2 : x.f1 = s.f1
      · rw [if_pos h2]
        by_cases h3 : (x.f3.length : Int) ≤ (s.f3.length : Int)
        · rw [if_pos h3, if_pos (.inr ⟨h2, by omega⟩)]
        · rw [if_neg h3, if_neg (by rintro (h | ⟨_, h⟩) <;> omega)]
      · rw [if_neg h2, if_neg (by rintro (h | ⟨h, _⟩) <;> omega)]
def bst (l : List S36) : S36 × Bool := l.foldl step (⟨0, 0, 0, []⟩, false)
theorem step_len (s : S36 × Bool) (x : S36) (hs : s.1.f3.length ≤ 60) (hx : x.f3.length ≤ 60) : (step s x).1.f3.length ≤ 60 := by
  unfold step; split <;> assumption
theorem best_l0 (l : List S36) (hb : l.length < 4611686018427387904) (hr : ∀ x ∈ l, x.f3.length ≤ 60) : ∀ (d i : Nat) (s : S36 × Bool), i + d = l.length → s.1.f3.length ≤ 60 →
    Ev (fun k => log_Best.l0 k l (l.length : Int) (i : Int) s.1.f0 s.1.f1 s.1.f2 s.1.f3 s.2) (((l.drop i).foldl step s).1.f0, ((l.drop i).foldl step s).1.f1, ((l.drop i).foldl step s).1.f2, ((l.drop i).foldl step s).1.f3, ((l.drop i).foldl step s).2) := by
  intro d
  induction d with
  | zero =>
    intro i s hi hs
    refine Ev.step (fun k => by rw [log_Best.l0]) ?_
    refine ev_neg (by omega) ?_
    unfold log_vote_own.f
    rw [clone_is _ (by omega), List.drop_eq_nil_of_le (by omega)]
    exact Ev.now _
  | succ d ih =>
    intro i s hi hs
    have hi2 : i < l.length := by omega
    refine Ev.step (fun k => by rw [log_Best.l0]) ?_
    refine ev_pos (by omega) ?_
    refine ev_pos (by omega) ?_
    refine ev_pos (by omega) ?_
    rw [rdV l i hi2, against_is s.1 s.2 l[i], wr1 (by omega) (by omega), List.drop_eq_getElem_cons hi2]
    exact ih (i + 1) (step s l[i]) (by omega) (step_len _ _ hs (hr _ (List.getElem_mem hi2)))
theorem best_ev (l : List S36) (hb : l.length < 4611686018427387904) (hr : ∀ x ∈ l, x.f3.length ≤ 60) : Ev (fun k => log_Best.f k l) ((bst l).1.f0, (bst l).1.f1, (bst l).1.f2, (bst l).1.f3, (bst l).2) :=
  best_l0 l hb hr l.length 0 (⟨0, 0, 0, []⟩, false) (by omega) (by simp)
theorem bst_snoc (l : List S36) (v : S36) : bst (l ++ [v]) = step (bst l) v := by
  unfold bst; rw [List.foldl_append]; rfl
theorem worse_trans {x y z : S36} (h1 : worse x y) (h2 : worse y z) : worse x z := by
  unfold worse at *; omega
theorem worse_total (x y : S36) (h : ¬ worse x y) : worse y x := by
  unfold worse at *; omega
theorem worse_refl (x : S36) : worse x x := .inr ⟨rfl, Nat.le_refl _⟩
theorem bst_spec : ∀ (l : List S36), ((bst l).2 = true ↔ l ≠ []) ∧ ((bst l).2 = true → (bst l).1 ∈ l) ∧ ∀ x ∈ l, worse x (bst l).1 := by
  intro l
  suffices h : ∀ m : List S36, ((bst m.reverse).2 = true ↔ m.reverse ≠ []) ∧ ((bst m.reverse).2 = true → (bst m.reverse).1 ∈ m.reverse) ∧ ∀ x ∈ m.reverse, worse x (bst m.reverse).1 by
    have := h l.reverse
    rwa [List.reverse_reverse] at this
  intro m
  induction m with
  | nil => simp [bst]
  | cons v m ih =>
    rw [List.reverse_cons, bst_snoc]
    generalize m.reverse = l at ih
    obtain ⟨h1, h2, h3⟩ := ih
    unfold step
    by_cases h : (bst l).2 = true ∧ worse v (bst l).1
    · rw [if_pos h]
      refine ⟨by simp [h.1], fun _ => List.mem_append_left _ (h2 h.1), fun x hx => ?_⟩
      rcases List.mem_append.1 hx with hx | hx
      · exact h3 x hx
      · rw [List.mem_singleton.1 hx]; exact h.2
    · rw [if_neg h]
      refine ⟨by simp, fun _ => by simp, fun x hx => ?_⟩
      rcases List.mem_append.1 hx with hx | hx
      · have hy : (bst l).2 = true := h1.2 (fun e => by rw [e] at hx; cases hx)
        exact worse_trans (h3 x hx) (worse_total _ _ (fun hw => h ⟨hy, hw⟩))
      · rw [List.mem_singleton.1 hx]; exact worse_refl v
/-! ### votes compared -/
def same (x y : S36) : Prop := x.f0 = y.f0 ∧ x.f1 = y.f1 ∧ x.f2 = y.f2 ∧ ks x.f3 = ks y.f3
instance (x y : S36) : Decidable (same x y) := by unfold same; infer_instance
theorem same_ev (x y : S36) (hx : x.f3.length ≤ 60) : Ev (fun k => watchmanref23_SameVote.f k x.f0 x.f1 x.f2 x.f3 y.f0 y.f1 y.f2 y.f3) (decide (same x y)) := by
  unfold watchmanref23_SameVote.f
  by_cases h0 : x.f0 = y.f0
  · refine ev_pos h0 ?_
    by_cases h1 : x.f1 = y.f1
    · refine ev_pos h1 ?_
      by_cases h2 : x.f2 = y.f2
      · refine ev_pos h2 ?_
        refine Ev.bind (texts_ev x.f3 y.f3 (by omega)) ?_
        have e : decide (same x y) = decide (ks x.f3 = ks y.f3) := by simp [same, h0, h1, h2]
        rw [e]
        exact Ev.now _
      · refine ev_neg h2 ?_
        rw [show decide (same x y) = false from decide_eq_false (fun h => h2 h.2.2.1)]
        exact Ev.now _
    · refine ev_neg h1 ?_
      rw [show decide (same x y) = false from decide_eq_false (fun h => h1 h.2.1)]
      exact Ev.now _
  · refine ev_neg h0 ?_
    rw [show decide (same x y) = false from decide_eq_false (fun h => h0 h.1)]
    exact Ev.now _
/-! ### With -/
theorem with_l0 (l : List S36) (v : S36) (hb : l.length ≤ 20) (hr : ∀ x ∈ l, x.f3.length ≤ 60) (hv : v.f3.length ≤ 60) : ∀ (d i : Nat) (out : List S36), i + d = l.length → out.length ≤ i →
    Ev (fun k => log_With.l0 k out l (l.length : Int) (i : Int) v.f0 v.f1 v.f2 v.f3) (out ++ (l.drop i).filter (fun x => !decide (x.f0 = v.f0)) ++ [v]) := by
  intro d
  induction d with
  | zero =>
    intro i out hi ho
    refine Ev.step (fun k => by rw [log_With.l0]) ?_
    refine ev_neg (by omega) ?_
    unfold log_vote_own.f
    rw [clone_is _ (by omega), List.drop_eq_nil_of_le (by omega)]
    simp only [Option.bind_some, List.filter_nil, List.append_nil]
    exact ev_pos (by omega) (Ev.now _)
  | succ d ih =>
    intro i out hi ho
    have hi2 : i < l.length := by omega
    refine Ev.step (fun k => by rw [log_With.l0]) ?_
    refine ev_pos (by omega) ?_
    refine ev_pos (by omega) ?_
    refine ev_pos (by omega) ?_
    rw [rdV l i hi2, wr1 (by omega) (by omega), List.drop_eq_getElem_cons hi2]
    by_cases h : l[i].f0 = v.f0
    · refine ev_pos h ?_
      rw [List.filter_cons_of_neg (by simp [h])]
      exact ih (i + 1) out (by omega) (by omega)
    · refine ev_neg h ?_
      unfold log_vote_own.f
      rw [clone_is _ (by have := hr _ (List.getElem_mem hi2); omega)]
      simp only [Option.bind_some]
      refine ev_pos (by omega) ?_
      rw [List.filter_cons_of_pos (by simp [h])]
      have := ih (i + 1) (out ++ [l[i]]) (by omega) (by simp; omega)
      simpa using this
theorem with_ev (l : List S36) (v : S36) (hb : l.length ≤ 20) (hr : ∀ x ∈ l, x.f3.length ≤ 60) (hv : v.f3.length ≤ 60) :
    Ev (fun k => log_With.f k l v.f0 v.f1 v.f2 v.f3) (l.filter (fun x => !decide (x.f0 = v.f0)) ++ [v]) := by
  have := with_l0 l v hb hr hv l.length 0 [] (by omega) (by simp)
  simp only [List.nil_append, List.drop_zero] at this
  exact this
end Go.Proofs.Ytncoccpgdgdknaa.F
