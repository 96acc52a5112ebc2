/- The pure statement of DueOrder: turns in order stand by their times; put in order again they are as they are; turned round first, too. -/
import Derived.Test.YtcfpbmdndapeaaaDo
import Derived.Test.YtcfpbmdndapeaaaQDueOrder
set_option linter.unusedVariables false
set_option linter.unusedSimpArgs false
namespace Go.Proofs.Ytcfpbmdndapeaaa.F
open Go.RowKit Go.Proofs.YtcfpbmdndapeaaaV.PrintWords Go.Proofs.YtcfpbmdndapeaaaV.PrintLast
namespace Ds
theorem back_l0 (l m : List Tn) (r : Bool) (hl : l.length ≤ 60) (hfin : Ev (fun k => watchmanlaw09_DueOrder.l1 k l m l.reverse 1) r) : ∀ (i : Nat), i ≤ l.length →
    Ev (fun k => watchmanlaw09_DueOrder.l0 k l m (l.drop i).reverse ((i : Int) - 1)) r := by
  intro i
  induction i with
  | zero =>
    intro _
    refine Ev.step (fun k => by rw [watchmanlaw09_DueOrder.l0]) ?_
    exact ev_neg (by omega) (by rw [List.drop_zero]; exact hfin)
  | succ i ih =>
    intro hi
    have h1 := ih (by omega)
    have e : (((i + 1 : Nat) : Int) - 1) = (i : Int) := by omega
    have e2 : wrap64 ((i : Int) - 1) = (i : Int) - 1 := wrs (by omega) (by omega)
    have e3 : (l.drop i).reverse = (l.drop (i + 1)).reverse ++ [l[i]] := by rw [List.drop_eq_getElem_cons (show i < l.length by omega), List.reverse_cons]
    rw [e3] at h1
    rw [e]
    refine Ev.step (fun k => by rw [watchmanlaw09_DueOrder.l0]) ?_
    refine ev_pos (by omega) (ev_pos (by omega) (ev_pos (by omega) (ev_pos (by rw [List.length_reverse, List.length_drop]; omega) ?_)))
    rw [rdT l i (by omega), e2]
    exact h1
theorem rise_l1 (l m b : List Tn) (r : Bool) (hm : Srt m) (hl : m.length ≤ 60) (hfin : Ev (fun k => watchmanlaw09_DueOrder.l1 k l m b (m.length : Int)) r) : ∀ (d i : Nat), i + d = m.length → 1 ≤ i →
    Ev (fun k => watchmanlaw09_DueOrder.l1 k l m b (i : Int)) r := by
  intro d
  induction d with
  | zero =>
    intro i hi _
    rw [show i = m.length by omega]
    exact hfin
  | succ d ih =>
    intro i hi h0
    have h1 := ih (i + 1) (by omega) (by omega)
    have e : ((i + 1 : Nat) : Int) = wrap64 ((i : Int) + 1) := by rw [wr1 (by omega) (by omega)]; rfl
    have e2 : wrap64 ((i : Int) - 1) = ((i - 1 : Nat) : Int) := by rw [wrs (by omega) (by omega)]; omega
    rw [e] at h1
    refine Ev.step (fun k => by rw [watchmanlaw09_DueOrder.l1]) ?_
    rw [e2, rdT m (i - 1) (by omega), rdT m i (by omega)]
    have hle := at_lt hm (show i - 1 < m.length by omega) (show i < m.length by omega) (by omega)
    refine ev_pos (by omega) (ev_pos (by omega) (ev_pos (by omega) (ev_pos (by omega) (ev_neg ?_ h1))))
    intro hgt
    exact hle (.inl hgt)
theorem DueOrder_ev (l : List Tn) : Ev (fun k => watchmanlaw09_DueOrder.f k l) true := by
  unfold watchmanlaw09_DueOrder.f
  by_cases c : (l.length : Int) > 60
  · exact ev_pos c (Ev.now _)
  · refine ev_neg c ?_
    have hl : l.length ≤ 60 := by omega
    obtain ⟨m, m1, m2, m3⟩ := order_ev l (by omega)
    have hml := m2.length_eq
    refine Ev.bind m3 ?_
    have e : wrap64 ((l.length : Int) - 1) = (l.length : Int) - 1 := wrs (by omega) (by omega)
    rw [e]
    have hfin : Ev (fun k => watchmanlaw09_DueOrder.l1 k l m l.reverse (m.length : Int)) true := by
      refine Ev.step (fun k => by rw [watchmanlaw09_DueOrder.l1]) ?_
      refine ev_neg (by omega) ?_
      rw [coming_is]
      refine ev_pos (by omega) ?_
      refine Ev.bind (order_is (by omega) m1 (List.Perm.refl m)) (Ev.bind (same_ev m (by omega)) (ev_pos rfl ?_))
      exact Ev.bind (order_is (by rw [List.length_reverse]; omega) m1 (m2.trans (List.reverse_perm l).symm)) (Ev.bind (same_ev m (by omega)) (Ev.now _))
    have h1 : Ev (fun k => watchmanlaw09_DueOrder.l1 k l m l.reverse 1) true := by
      by_cases h0 : m.length = 0
      · refine Ev.step (fun k => by rw [watchmanlaw09_DueOrder.l1]) ?_
        refine ev_neg (by omega) ?_
        rw [coming_is]
        refine ev_pos (by omega) ?_
        refine Ev.bind (order_is (by omega) m1 (List.Perm.refl m)) (Ev.bind (same_ev m (by omega)) (ev_pos rfl ?_))
        exact Ev.bind (order_is (by rw [List.length_reverse]; omega) m1 (m2.trans (List.reverse_perm l).symm)) (Ev.bind (same_ev m (by omega)) (Ev.now _))
      · exact rise_l1 l m l.reverse true m1 (by omega) hfin (m.length - 1) 1 (by omega) (by omega)
    have h2 := back_l0 l m true hl h1 l.length (Nat.le_refl _)
    rw [List.drop_length] at h2
    exact h2
end Ds
theorem DueOrder_pure : watchmanlaw09_DueOrder.Pure := by
  intro l _ _
  obtain ⟨K, h⟩ := Ds.DueOrder_ev l
  exact ⟨K, h K (Nat.le_refl _)⟩
end Go.Proofs.Ytcfpbmdndapeaaa.F
