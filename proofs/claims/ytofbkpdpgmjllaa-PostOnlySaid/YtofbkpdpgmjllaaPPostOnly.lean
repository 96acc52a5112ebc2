/- The pure statement of PostOnly: those to some are left, as they were, and no others. -/
import Derived.Test.YtofbkpdpgmjllaaPoS
import Derived.Test.YtofbkpdpgmjllaaF13
import Derived.Test.YtofbkpdpgmjllaaF9
import Derived.Test.YtofbkpdpgmjllaaQPostOnly
set_option linter.unusedVariables false
set_option linter.unusedSimpArgs false
namespace Go.Proofs.Ytofbkpdpgmjllaa.F
open Go.RowKit Go.Proofs.YtofbkpdpgmjllaaW.PrintWords Go.Proofs.YtofbkpdpgmjllaaW.PrintLast
theorem same_l0 (l : List Le) (hb : l.length < 4611686018427387904) : ∀ (d i : Nat), i + d = l.length → Ev (fun k => watchmanref21_SameLetters.l0 k l l (i : Int)) true := by
  intro d
  induction d with
  | zero =>
    intro i hi
    refine Ev.step (fun k => by rw [watchmanref21_SameLetters.l0]) ?_
    exact ev_neg (by omega) (Ev.now _)
  | succ d ih =>
    intro i hi
    have h1 := ih (i + 1) (by omega)
    have e : ((i + 1 : Nat) : Int) = wrap64 ((i : Int) + 1) := by rw [wr1 (by omega) (by omega)]; rfl
    rw [e] at h1
    refine Ev.step (fun k => by rw [watchmanref21_SameLetters.l0]) ?_
    exact ev_pos (by omega) (ev_pos (by omega) (ev_pos (by omega) (ev_neg (by simp) h1)))
theorem same_ev (l : List Le) (hb : l.length < 4611686018427387904) : Ev (fun k => watchmanref21_SameLetters.f k l l) true := by
  unfold watchmanref21_SameLetters.f
  exact ev_pos rfl (same_l0 l hb l.length 0 (by omega))
/-- The letters to one are those of a part, if the part is to be had, or none. -/
def onlyL (ks : List Int) (l : List Le) : List Le := l.filter (fun x => ks.contains x.f2)
theorem filter_to (l : List Le) (ks : List Int) (t : Int) : (onlyL ks l).filter (toP t) = if ks.contains t = true then l.filter (toP t) else [] := by
  unfold onlyL
  rw [List.filter_filter]
  split
  · rename_i h
    congr 1; funext x
    by_cases hx : toP t x = true
    · have : x.f2 = t := of_decide_eq_true hx
      rw [hx, this, h]; rfl
    · rw [Bool.not_eq_true] at hx; rw [hx]; rfl
  · rename_i h
    rw [List.filter_eq_nil_iff]
    intro x _
    rw [Bool.and_eq_true]
    rintro ⟨h1, h2⟩
    have : x.f2 = t := of_decide_eq_true h1
    rw [this] at h2; exact h h2
/-- How many there are, of those to 0 .. t - 1. -/
def till (l : List Le) : Nat → Nat
  | 0 => 0
  | t + 1 => till l t + cnt (t : Int) l
theorem till_count (l : List Le) : ∀ t : Nat, till l t = (l.filter (fun x => decide (0 ≤ x.f2) && decide (x.f2 < (t : Int)))).length
  | 0 => by
    unfold till
    rw [List.filter_eq_nil_iff.2]
    · rfl
    · intro x _; rw [Bool.and_eq_true, decide_eq_true_iff, decide_eq_true_iff]; omega
  | t + 1 => by
    unfold till
    rw [till_count l t]
    unfold cnt
    induction l with
    | nil => rfl
    | cons x l ih =>
      rw [List.filter_cons, List.filter_cons, List.filter_cons]
      have ht : toP (t : Int) x = decide (x.f2 = (t : Int)) := rfl
      by_cases c1 : 0 ≤ x.f2
      · by_cases c2 : x.f2 < (t : Int)
        · rw [if_pos (by rw [Bool.and_eq_true, decide_eq_true_iff, decide_eq_true_iff]; omega), if_neg (by rw [ht, decide_eq_true_iff]; omega), if_pos (by rw [Bool.and_eq_true, decide_eq_true_iff, decide_eq_true_iff]; omega), List.length_cons, List.length_cons]
          omega
        · by_cases c3 : x.f2 = (t : Int)
          · rw [if_neg (by rw [Bool.and_eq_true, decide_eq_true_iff, decide_eq_true_iff]; omega), if_pos (by rw [ht, decide_eq_true_iff]; exact c3), if_pos (by rw [Bool.and_eq_true, decide_eq_true_iff, decide_eq_true_iff]; omega), List.length_cons, List.length_cons]
            omega
          · rw [if_neg (by rw [Bool.and_eq_true, decide_eq_true_iff, decide_eq_true_iff]; omega), if_neg (by rw [ht, decide_eq_true_iff]; exact c3), if_neg (by rw [Bool.and_eq_true, decide_eq_true_iff, decide_eq_true_iff]; omega)]
            exact ih
      · rw [if_neg (by rw [Bool.and_eq_true, decide_eq_true_iff, decide_eq_true_iff]; omega), if_neg (by rw [ht, decide_eq_true_iff]; omega), if_neg (by rw [Bool.and_eq_true, decide_eq_true_iff, decide_eq_true_iff]; omega)]
        exact ih
theorem till_all (n : Int) (l : List Le) (hw : IsP n l) : till l 21 = l.length := by
  rw [till_count, List.filter_eq_self.2]
  intro x hx
  have := (hw.2.2.2.1 x hx).2.2.2.1
  rw [Bool.and_eq_true, decide_eq_true_iff, decide_eq_true_iff]
  omega
theorem till_le (l : List Le) (t : Nat) : till l t ≤ l.length := by rw [till_count]; exact List.length_filter_le _ _
theorem only_l0 (n : Int) (l : List Le) (ks : List Int) (hk : ks.length < 1000000000) (hw : IsP n l) :
    ∀ (d t : Nat), t + d = 21 → Ev (fun k => watchmanlaw21_PostOnly.l0 k ks (till (onlyL ks l) t : Int) (t : Int) n l n (onlyL ks l)) true := by
  have hsub : IsP n (onlyL ks l) := hw.sub (by unfold onlyL; exact List.filter_sublist)
  have hl := hw.2.2.1
  have hl2 := hsub.2.2.1
  intro d
  induction d with
  | zero =>
    intro t ht
    obtain rfl : t = 21 := by omega
    refine Ev.step (fun k => by rw [watchmanlaw21_PostOnly.l0]) ?_
    refine ev_neg (by omega) (Ev.bind posted_ev (ev_pos rfl (ev_pos ?_ (ev_pos rfl (Ev.bind (is_yes hsub) (Ev.now _))))))
    rw [till_all n _ hsub]
  | succ d ih =>
    intro t ht
    have h1 := ih (t + 1) (by omega)
    have e : ((t + 1 : Nat) : Int) = wrap64 ((t : Int) + 1) := by rw [wr1 (by omega) (by omega)]; rfl
    have hto := filter_to l ks (t : Int)
    have hcl := cnt_le (t : Int) (onlyL ks l)
    have htl := till_le (onlyL ks l) t
    have e2 : ((till (onlyL ks l) (t + 1) : Nat) : Int) = wrap64 ((till (onlyL ks l) t : Int) + (((onlyL ks l).filter (toP (t : Int))).length : Int)) := by
      rw [wrs (by omega) (by unfold cnt at hcl; omega)]
      rw [show till (onlyL ks l) (t + 1) = till (onlyL ks l) t + cnt (t : Int) (onlyL ks l) from rfl]
      unfold cnt; omega
    rw [e, e2] at h1
    have j3 : Ev (fun k => watchmanlaw21_PostOnly.j3 k ks (till (onlyL ks l) t : Int) (t : Int) ((onlyL ks l).filter (toP (t : Int))) false n l n (onlyL ks l)) true := by
      refine Ev.step (fun k => by rw [watchmanlaw21_PostOnly.j3]) ?_
      exact ev_neg (by decide) h1
    refine Ev.step (fun k => by rw [watchmanlaw21_PostOnly.l0]) ?_
    refine ev_pos (by omega) ?_
    have inner : ∀ (dd j : Nat) (q : Bool), j + dd = ks.length → ((q = true ∨ (t : Int) ∈ ks.drop j) ↔ ks.contains (t : Int) = true) → Ev (fun k => watchmanlaw21_PostOnly.l1 k ks (till (onlyL ks l) t : Int) (t : Int) q (j : Int) n l n (onlyL ks l)) true := by
      intro dd
      induction dd with
      | zero =>
        intro j q hj hq
        rw [List.drop_eq_nil_of_le (by omega)] at hq
        refine Ev.step (fun k => by rw [watchmanlaw21_PostOnly.l1]) ?_
        refine ev_neg (by omega) ?_
        rw [to_is _ _ _ (by omega), to_is _ _ _ (by omega)]
        simp only [Option.bind_some]
        cases q with
        | true =>
          have hc : ks.contains (t : Int) = true := hq.1 (.inl rfl)
          rw [if_pos hc] at hto
          refine ev_pos rfl ?_
          have hs : Ev (fun k => watchmanref21_SameLetters.f k ((onlyL ks l).filter (toP (t : Int))) (l.filter (toP (t : Int)))) true := by
            rw [hto]
            exact same_ev _ (by have := List.length_filter_le (toP (t : Int)) l; omega)
          exact Ev.bind hs (ev_pos rfl j3)
        | false =>
          have hc : ¬ ks.contains (t : Int) = true := fun h => by rcases hq.2 h with h2 | h2 <;> cases h2
          rw [if_neg hc] at hto
          refine ev_neg (by decide) ?_
          have hd : decide ((((onlyL ks l).filter (toP (t : Int))).length : Int) > 0) = false := by rw [hto]; rfl
          rw [hd]
          exact j3
      | succ dd ih2 =>
        intro j q hj hq
        have hj2 : j < ks.length := by omega
        have ej : ((j + 1 : Nat) : Int) = wrap64 ((j : Int) + 1) := by rw [wr1 (by omega) (by omega)]; rfl
        rw [List.drop_eq_getElem_cons hj2] at hq
        refine Ev.step (fun k => by rw [watchmanlaw21_PostOnly.l1]) ?_
        refine ev_pos (by omega) ?_
        cases q with
        | true =>
          have h2 := ih2 (j + 1) true (by omega) ⟨fun _ => hq.1 (.inl rfl), fun _ => .inl rfl⟩
          rw [ej] at h2
          exact ev_pos rfl h2
        | false =>
          refine ev_neg Bool.false_ne_true ?_
          refine ev_pos (Int.natCast_nonneg j) ?_
          rw [rdI ks j hj2]
          have h2 := ih2 (j + 1) (ks[j] == (t : Int)) (by omega) (by
            rw [← hq, List.mem_cons, beq_iff_eq]
            constructor
            · rintro (h | h)
              · exact .inr (.inl h.symm)
              · exact .inr (.inr h)
            · rintro (h | h | h)
              · cases h
              · exact .inl h.symm
              · exact .inr h)
          rw [ej] at h2
          exact h2
    exact inner ks.length 0 false (by omega) (by rw [List.drop_zero, List.contains_iff_mem]; exact ⟨fun h => h.resolve_left (fun e => by cases e), .inr⟩)
theorem PostOnly_pure : watchmanlaw21_PostOnly.Pure := by
  intro n l ks _ hl _ hk _
  refine Ev.rounds ?_
  unfold watchmanlaw21_PostOnly.f
  obtain ⟨b, f1, f2⟩ := far_ev l n [] (by omega) (by simp)
  have yes : Ev (fun k => watchmanlaw21_PostOnly.j0 k ks true n l) true := by
    refine Ev.step (fun k => by rw [watchmanlaw21_PostOnly.j0]) ?_
    exact ev_pos rfl (Ev.now _)
  cases b with
  | true => exact Ev.bind f1 (ev_pos rfl yes)
  | false =>
    have hlen := (f2 rfl).1
    refine Ev.bind f1 (ev_neg (by decide) ?_)
    by_cases hk60 : (ks.length : Int) > 60
    · rw [decide_eq_true hk60]; exact yes
    · rw [decide_eq_false hk60]
      refine Ev.step (fun k => by rw [watchmanlaw21_PostOnly.j0]) ?_
      refine ev_neg (by decide) ?_
      obtain ⟨q, q1, q2⟩ := is_ev n l (by omega)
      cases q with
      | false =>
        have on : Ev (fun k => post_Only.f k n l ks) (0, [], 1) := by
          unfold post_Only.f
          exact Ev.bind q1 (ev_pos (by omega) (ev_neg (by decide) (Ev.now _)))
        exact Ev.bind on (ev_neg (by decide) (Ev.bind posted_ev (ev_pos rfl (Ev.bind q1 (Ev.now _)))))
      | true =>
        have hw := q2.1 rfl
        have on : Ev (fun k => post_Only.f k n l ks) (n, onlyL ks l, 0) := by
          unfold post_Only.f onlyL
          exact Ev.bind q1 (ev_pos (by omega) (ev_pos rfl (Ev.now _)))
        have h0 := only_l0 n l ks (by omega) hw 21 0 (by decide)
        rw [show till (onlyL ks l) 0 = 0 from rfl] at h0
        exact Ev.bind on (ev_pos rfl h0)
end Go.Proofs.Ytofbkpdpgmjllaa.F
