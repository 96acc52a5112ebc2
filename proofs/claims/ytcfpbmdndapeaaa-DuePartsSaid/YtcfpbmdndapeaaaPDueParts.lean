/- The pure statement of DueParts: the turns till a later time are those till an earlier one, and those of the board behind Pass till that. -/
import Derived.Test.YtcfpbmdndapeaaaDu
import Derived.Test.YtcfpbmdndapeaaaHp
import Derived.Test.YtcfpbmdndapeaaaQDueParts
set_option linter.unusedVariables false
set_option linter.unusedSimpArgs false
namespace Go.Proofs.Ytcfpbmdndapeaaa.F
open Go.RowKit Go.Proofs.YtcfpbmdndapeaaaV.PrintWords Go.Proofs.YtcfpbmdndapeaaaV.PrintLast
namespace Du
open Ds (Tn ltT leT Srt)
theorem stp_split {x : Al} (hx : isA x) {t u : Int} (h : t ≤ u) : stp u x = stp t x ++ stp u (pA t x) := by
  have hb := wt_bound x.f2
  by_cases c4 : x.f1 = 4
  · by_cases c : x.f4 ≤ t
    · by_cases c2 : x.f4 + wt x.f2 ≤ t
      · have e : (pA t x).f1 = 2 := by
          show passP x.f0.f0 x.f0.f1 x.f1 x.f2 x.f3 x.f4 t = 2
          unfold passP; rw [if_pos hx, if_pos ⟨c4, c⟩, if_pos c2]
        have e2 : stp u (pA t x) = [] := by unfold stp; rw [if_neg (by omega), if_neg (by omega)]
        rw [e2, List.append_nil]
        unfold stp
        rw [if_pos c4, if_pos c4, if_neg (show ¬ x.f4 > u by omega), if_neg (show ¬ x.f4 + wt x.f2 > u by omega), if_neg (show ¬ x.f4 > t by omega), if_neg (show ¬ x.f4 + wt x.f2 > t by omega)]
      · have e1 : passP x.f0.f0 x.f0.f1 x.f1 x.f2 x.f3 x.f4 t = 1 := by unfold passP; rw [if_pos hx, if_pos ⟨c4, c⟩, if_neg c2]
        have e2 : passU x.f0.f0 x.f0.f1 x.f1 x.f2 x.f3 x.f4 t = x.f4 + wt x.f2 := by unfold passU; rw [if_pos hx, if_pos ⟨c4, c⟩]
        have e3 : stp u (pA t x) = if x.f4 + wt x.f2 > u then [] else [⟨x.f4 + wt x.f2, x.f0, 2⟩] := by
          unfold stp pA
          rw [e1, e2]
          dsimp only
          rw [if_neg (by decide), if_pos rfl]
        rw [e3]
        unfold stp
        rw [if_pos c4, if_pos c4, if_neg (show ¬ x.f4 > u by omega), if_neg (show ¬ x.f4 > t by omega), if_pos (show x.f4 + wt x.f2 > t by omega)]
        rfl
    · have e1 : passP x.f0.f0 x.f0.f1 x.f1 x.f2 x.f3 x.f4 t = x.f1 := by unfold passP; rw [if_pos hx, if_neg (by omega), if_neg (by omega)]
      have e2 : passU x.f0.f0 x.f0.f1 x.f1 x.f2 x.f3 x.f4 t = x.f4 := by unfold passU; rw [if_pos hx, if_neg (by omega)]
      have e3 : pA t x = x := by unfold pA; rw [e1, e2]
      have e4 : stp t x = [] := by unfold stp; rw [if_pos c4, if_pos (by omega)]
      rw [e3, e4, List.nil_append]
  · by_cases c1 : x.f1 = 1
    · by_cases c : x.f4 ≤ t
      · have e : (pA t x).f1 = 2 := by
          show passP x.f0.f0 x.f0.f1 x.f1 x.f2 x.f3 x.f4 t = 2
          unfold passP; rw [if_pos hx, if_neg (by omega), if_pos ⟨c1, c⟩]
        have e2 : stp u (pA t x) = [] := by unfold stp; rw [if_neg (by omega), if_neg (by omega)]
        rw [e2, List.append_nil]
        unfold stp
        rw [if_neg c4, if_neg c4, if_pos c1, if_pos c1, if_neg (show ¬ x.f4 > u by omega), if_neg (show ¬ x.f4 > t by omega)]
      · have e1 : passP x.f0.f0 x.f0.f1 x.f1 x.f2 x.f3 x.f4 t = x.f1 := by unfold passP; rw [if_pos hx, if_neg (by omega), if_neg (by omega)]
        have e2 : passU x.f0.f0 x.f0.f1 x.f1 x.f2 x.f3 x.f4 t = x.f4 := by unfold passU; rw [if_pos hx, if_neg (by omega)]
        have e3 : pA t x = x := by unfold pA; rw [e1, e2]
        have e4 : stp t x = [] := by unfold stp; rw [if_neg c4, if_pos c1, if_pos (by omega)]
        rw [e3, e4, List.nil_append]
    · have e1 : passP x.f0.f0 x.f0.f1 x.f1 x.f2 x.f3 x.f4 t = x.f1 := by unfold passP; rw [if_pos hx, if_neg (by omega), if_neg (by omega)]
      have e0 : ∀ (v : Int) (y : Al), y.f1 = x.f1 → stp v y = [] := fun v y hy => by unfold stp; rw [if_neg (by omega), if_neg (by omega)]
      rw [e0 u x rfl, e0 t x rfl, e0 u (pA t x) e1]
      rfl
theorem perm_four {α : Type} (A B C D : List α) : ((A ++ B) ++ (C ++ D)).Perm ((A ++ C) ++ (B ++ D)) := by
  rw [List.append_assoc, List.append_assoc]
  refine List.Perm.append_left A ?_
  rw [← List.append_assoc, ← List.append_assoc]
  exact List.Perm.append_right D List.perm_append_comm
theorem flat_split {t u : Int} (h : t ≤ u) : ∀ (l : List Al), (∀ x ∈ l, isA x) → (l.flatMap (stp u)).Perm (l.flatMap (stp t) ++ (l.map (pA t)).flatMap (stp u))
  | [], _ => List.Perm.refl _
  | x :: l, hl => by
    have ih := flat_split h l (fun y hy => hl y (List.mem_cons_of_mem _ hy))
    rw [List.flatMap_cons, List.flatMap_cons, List.map_cons, List.flatMap_cons, stp_split (hl x List.mem_cons_self) h]
    exact (List.Perm.append_left _ ih).trans (perm_four _ _ _ _)
theorem parts_bad (l m a : List Tn) : Ev (fun k => watchmanlaw09_DueParts.j1 k l m a true) true := by
  refine Ev.step (fun k => by rw [watchmanlaw09_DueParts.j1]) ?_
  exact ev_pos rfl (Ev.bind coming_ev (Ev.now _))
theorem DueParts_ev (m n : Int) (l : List Al) (t u : Int) : Ev (fun k => watchmanlaw09_DueParts.f k m n l t u) true := by
  have skip : ∀ m n l, Ev (fun k => watchmanlaw09_DueParts.j0 k t u true m n l) true := fun m n l => by
    refine Ev.step (fun k => by rw [watchmanlaw09_DueParts.j0]) ?_
    exact ev_pos rfl (Ev.now _)
  unfold watchmanlaw09_DueParts.f
  rw [far_is]
  by_cases c : (l.length : Int) > 60
  · rw [decide_eq_true c]
    exact Ev.bind (Ev.now true) (ev_pos rfl (skip m n l))
  rw [decide_eq_false c]
  refine Ev.bind (Ev.now false) (ev_neg (by decide) ?_)
  by_cases cu : u < t
  · rw [decide_eq_true cu]; exact skip m n l
  rw [decide_eq_false cu]
  refine Ev.step (fun k => by rw [watchmanlaw09_DueParts.j0]) ?_
  refine ev_neg (by decide) ?_
  obtain ⟨⟨r1, e1⟩, hT1, hI1⟩ := turns_ev m n l (by omega) t
  obtain ⟨⟨p1, p2, p3, p4⟩, hP, hPI⟩ := bpass_ev m n l (by omega) t
  have hp3 : p3.length ≤ 60 := by
    by_cases c0 : p4 = 0
    · rw [show p3 = l.map (pA t) from (hPI.1 c0).2.2.2.2.2.2.1, List.length_map]; omega
    · rw [show p3 = [] from (hPI.2 c0).2.1]; simp
  obtain ⟨⟨r2, e2⟩, hT2, hI2⟩ := turns_ev p1 p2 p3 hp3 u
  obtain ⟨⟨r3, e3⟩, hT3, hI3⟩ := turns_ev m n l (by omega) u
  refine Ev.bind hT1 (Ev.bind hP (Ev.bind hT2 (Ev.bind hT3 ?_)))
  rcases hI1 with ⟨h1, hw, t0, t1, t2, s1, q1⟩ | ⟨h1, _⟩
  · refine ev_pos h1 ?_
    by_cases c0 : p4 = 0
    · refine ev_pos c0 ?_
      obtain ⟨_, _, _, _, _, _, hp, hwp⟩ := hPI.1 c0
      have hp' : p3 = l.map (pA t) := hp
      subst hp'
      rcases hI2 with ⟨h2, _, _, _, _, s2, q2⟩ | ⟨h2, _⟩
      · refine ev_pos h2 ?_
        rcases hI3 with ⟨h3, _, _, _, _, s3, q3⟩ | ⟨h3, _⟩
        · have e : (e3 != 0) = false := by rw [show e3 = 0 from h3]; rfl
          show Ev (fun k => watchmanlaw09_DueParts.j1 k r1 r2 r3 (e3 != 0)) true
          rw [e]
          have b1 := q1.length_eq; have b2 := q2.length_eq; have b3 := q3.length_eq
          have f1 := flat_len t l; have f2 := flat_len u (l.map (pA t)); rw [List.length_map] at f2
          dsimp only at b1 b2 b3 s3 q1 q2 q3
          have hperm : r3.Perm (r1 ++ r2) := q3.trans ((flat_split (by omega) l (fun x hx => (hw.2.2.2.2.2.1 x hx).1)).trans ((q1.append q2).symm))
          refine Ev.step (fun k => by rw [watchmanlaw09_DueParts.j1]) ?_
          refine ev_neg (by decide) (ev_pos (by rw [List.length_nil]; omega) (Ev.bind (Ev.now ([] ++ r1)) (ev_pos (by rw [List.nil_append]; omega) (Ev.bind (Ev.now ([] ++ r1 ++ r2)) (Ev.bind coming_ev (ev_pos rfl ?_))))))
          rw [List.nil_append]
          refine ev_pos (by rw [hperm.length_eq]) ?_
          exact Ev.bind (Ds.order_is (by rw [List.length_append]; omega) s3 hperm) (Ev.bind (Ds.same_ev r3 (by rw [hperm.length_eq, List.length_append]; omega)) (Ev.now _))
        · have e : (e3 != 0) = true := bne_iff_ne.2 h3
          show Ev (fun k => watchmanlaw09_DueParts.j1 k r1 r2 r3 (e3 != 0)) true
          rw [e]; exact parts_bad _ _ _
      · exact ev_neg h2 (parts_bad _ _ _)
    · exact ev_neg c0 (parts_bad _ _ _)
  · exact ev_neg h1 (parts_bad _ _ _)
end Du
theorem DueParts_pure : watchmanlaw09_DueParts.Pure := by
  intro m n l t u _ _ _ _ _ _
  obtain ⟨K, h⟩ := Du.DueParts_ev m n l t u
  exact ⟨K, h K (Nat.le_refl _)⟩
end Go.Proofs.Ytcfpbmdndapeaaa.F
