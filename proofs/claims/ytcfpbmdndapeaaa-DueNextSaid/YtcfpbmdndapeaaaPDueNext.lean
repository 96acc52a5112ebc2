/- The pure statement of DueNext: till the time ahead of Next nothing turns; at it something does; if none waits, nothing ever does. -/
import Derived.Test.YtcfpbmdndapeaaaDu
import Derived.Test.YtcfpbmdndapeaaaQDueNext
set_option linter.unusedVariables false
set_option linter.unusedSimpArgs false
namespace Go.Proofs.Ytcfpbmdndapeaaa.F
open Go.RowKit Go.Proofs.YtcfpbmdndapeaaaV.PrintWords Go.Proofs.YtcfpbmdndapeaaaV.PrintLast
namespace Du
open Ds (Tn ltT leT Srt)
/-- The head of the turns is of the first alarm. -/
theorem head_is {l : List Al} {t : Int} {b : Al} {y : Tn} {ys : List Tn} (hb : first l = some b) (hs : Srt (y :: ys)) (hp : (y :: ys).Perm (l.flatMap (stp t))) : b.f4 ≤ t ∧ y.f0 = b.f4 ∧ y.f1 = b.f0 := by
  obtain ⟨h1, h2, h3⟩ := first_min hb
  obtain ⟨x, hx, hy⟩ := List.mem_flatMap.1 (hp.mem_iff.1 List.mem_cons_self)
  obtain ⟨y1, y2, hw⟩ := stp_spot hy
  have hm := h3 x hx hw
  have hle : x.f4 ≤ t := by
    unfold stp at hy
    split at hy
    · split at hy
      · cases hy
      · omega
    · split at hy
      · split at hy
        · cases hy
        · omega
      · cases hy
  have hbt : b.f4 ≤ t := by unfold ltA at hm; omega
  obtain ⟨ph, hph⟩ := stp_head h2 hbt
  have hin : (⟨b.f4, b.f0, ph⟩ : Tn) ∈ y :: ys := hp.mem_iff.2 (List.mem_flatMap.2 ⟨b, h1, hph⟩)
  have hle2 : leT y ⟨b.f4, b.f0, ph⟩ := by
    rcases List.mem_cons.1 hin with e | e
    · rw [← e]; exact Ds.le_refl _
    · exact (List.pairwise_cons.1 hs).1 _ e
  unfold ltA lt at hm
  unfold leT ltT at hle2
  dsimp only at hle2
  rw [y1] at hle2 ⊢
  refine ⟨hbt, by omega, sp_ext (by omega) (by omega)⟩
theorem DueNext_ev (m n : Int) (l : List Al) (t : Int) : Ev (fun k => watchmanlaw09_DueNext.f k m n l t) true := by
  unfold watchmanlaw09_DueNext.f
  rw [far_is]
  by_cases c : (l.length : Int) > 60
  · rw [decide_eq_true c]
    exact Ev.bind (Ev.now true) (ev_pos rfl (Ev.now _))
  rw [decide_eq_false c]
  refine Ev.bind (Ev.now false) (ev_neg (by decide) ?_)
  obtain ⟨⟨rl, re⟩, hT, hI⟩ := turns_ev m n l (by omega) t
  refine Ev.bind (next_ev m n l (by omega)) (Ev.bind hT ?_)
  rcases hI with ⟨h0, hw, t0, t1, t2, hs, hp⟩ | ⟨h0, h1⟩
  · obtain rfl : re = 0 := h0
    refine ev_pos rfl ?_
    cases hf : first l with
    | none =>
      have hnil : rl = [] := by
        have : l.flatMap (stp t) = [] := List.flatMap_eq_nil_iff.2 (fun x hx => stp_idle (first_none hf x hx) t)
        rw [this] at hp
        exact hp.eq_nil
      subst hnil
      exact ev_neg (by show ¬ false = true; decide) (Ev.bind coming_ev (ev_pos rfl (ev_pos rfl (Ev.now _))))
    | some b =>
      have hF := firstf_ev l (by omega)
      rw [hf] at hF
      refine ev_pos rfl (Ev.bind hF (ev_pos rfl (ev_pos rfl ?_)))
      refine Ev.step (fun k => by rw [watchmanlaw09_DueNext.j0]) ?_
      cases rl with
      | nil =>
        have hnb : ¬ b.f4 ≤ t := fun hle => by
          obtain ⟨h1, h2, _⟩ := first_min hf
          obtain ⟨ph, hph⟩ := stp_head h2 hle
          have := hp.mem_iff.2 (List.mem_flatMap.2 ⟨b, h1, hph⟩)
          cases this
        refine ev_neg ?_ (Ev.bind coming_ev (ev_pos rfl (ev_pos rfl (Ev.now _))))
        show ¬ ((decide (((0 : Nat) : Int) > 0)) != (decide (b.f4 ≤ t))) = true
        rw [decide_eq_false hnb]
        decide
      | cons y ys =>
        obtain ⟨q1, q2, q3⟩ := head_is hf hs hp
        refine ev_neg ?_ (Ev.bind coming_ev (ev_pos rfl (ev_neg (by rw [List.length_cons]; omega) (ev_pos (by rw [List.length_cons]; omega) (ev_pos q2 ?_)))))
        · show ¬ ((decide (((ys.length + 1 : Nat) : Int) > 0)) != (decide (b.f4 ≤ t))) = true
          rw [decide_eq_true q1, decide_eq_true (by omega)]
          decide
        · have e : ((rd_T65 (y :: ys) 0).f1.f0 == b.f0.f0 && ((rd_T65 (y :: ys) 0).f1.f1 == b.f0.f1)) = true := by
            show (y.f1.f0 == b.f0.f0 && (y.f1.f1 == b.f0.f1)) = true
            rw [q3]
            simp
          show Ev (fun k => some ((rd_T65 (y :: ys) 0).f1.f0 == b.f0.f0 && ((rd_T65 (y :: ys) 0).f1.f1 == b.f0.f1))) true
          rw [e]
          exact Ev.now _
  · have h1' : rl = [] := h1
    subst h1'
    exact ev_neg h0 (Ev.bind coming_ev (ev_pos rfl (Ev.now _)))
end Du
theorem DueNext_pure : watchmanlaw09_DueNext.Pure := by
  intro m n l t _ _ _ _ _
  obtain ⟨K, h⟩ := Du.DueNext_ev m n l t
  exact ⟨K, h K (Nat.le_refl _)⟩
end Go.Proofs.Ytcfpbmdndapeaaa.F
