/- Order and Same of chapter 9, in plain words. No condition but sizes. -/
import Derived.Test.YtcfpbmdndapeaaaDm
import Derived.Test.YtcfpbmdndapeaaaF13
import Derived.Test.YtcfpbmdndapeaaaF26
import Derived.Test.YtcfpbmdndapeaaaF29
set_option linter.unusedVariables false
set_option linter.unusedSimpArgs false
namespace Go.Proofs.Ytcfpbmdndapeaaa.F
open Go.RowKit Go.Proofs.YtcfpbmdndapeaaaV.PrintWords Go.Proofs.YtcfpbmdndapeaaaV.PrintLast
namespace Ds
theorem order_ev (l : List Tn) (hl : l.length < 300000) : ∃ r, Srt r ∧ r.Perm l ∧ Ev (fun k => due_Order.f k l) r := by
  obtain ⟨r, r1, r2, r3⟩ := sort_ev l hl
  refine ⟨r, r1, r2, ?_⟩
  unfold due_Order.f
  exact ev_pos (by omega) r3
/-- A row in order, made of the same turns, is what Order answers. -/
theorem order_is {l m : List Tn} (hl : l.length < 300000) (hm : Srt m) (h : m.Perm l) : Ev (fun k => due_Order.f k l) m := by
  obtain ⟨r, r1, r2, r3⟩ := order_ev l hl
  rw [srt_unique hm r1 (h.trans r2.symm)]
  exact r3
theorem same_l0 (l : List Tn) (hl : l.length < 1000000) : ∀ (d i : Nat), i + d = l.length → Ev (fun k => watchmanref09_Same.l0 k l l (i : Int)) true := by
  intro d
  induction d with
  | zero =>
    intro i hi
    refine Ev.step (fun k => by rw [watchmanref09_Same.l0]) ?_
    exact ev_neg (by omega) (Ev.now _)
  | succ d ih =>
    intro i hi
    have h1 := ih (i + 1) (by omega)
    have e : ((i + 1 : Nat) : Int) = wrap64 ((i : Int) + 1) := by rw [wr1 (by omega) (by omega)]; rfl
    rw [e] at h1
    refine Ev.step (fun k => by rw [watchmanref09_Same.l0]) ?_
    refine ev_pos (by omega) (ev_pos (by omega) (ev_pos (by omega) (ev_neg ?_ h1)))
    simp only [beq_self_eq_true, Bool.not_true, Bool.or_self]
    exact Bool.false_ne_true
theorem same_ev (l : List Tn) (hl : l.length < 1000000) : Ev (fun k => watchmanref09_Same.f k l l) true := by
  unfold watchmanref09_Same.f
  exact ev_pos rfl (same_l0 l hl l.length 0 (by omega))
theorem coming_is : watchmanlaw09_coming.f = some true := rfl
end Ds
end Go.Proofs.Ytcfpbmdndapeaaa.F
