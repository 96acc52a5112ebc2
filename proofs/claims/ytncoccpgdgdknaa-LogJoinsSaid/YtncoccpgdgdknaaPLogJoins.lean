/- The pure statement of LogJoins: rows that are joined begin with what was asked for, and have the others behind. -/
import Derived.Test.YtncoccpgdgdknaaM
import Derived.Test.YtncoccpgdgdknaaJ
import Derived.Test.YtncoccpgdgdknaaQLogJoins
namespace Go.Proofs.Ytncoccpgdgdknaa.F
open Go.RowKit Go.Proofs.YtncoccpgdgdknaaW.PrintWords Go.Proofs.YtncoccpgdgdknaaW.PrintLast
theorem joins_loop (l m r : List ByteArray) (p : List ByteArray) (hm : m.length ≤ 60) (hp : p.length ≤ 60) (hr : r = p ++ m) (hl : l.length ≤ 60) : ∀ (d i : Nat), i + d = m.length →
    Ev (fun k => watchmanlaw23_LogJoins.l0 k l m r l true (p ++ m.take i) (i : Int)) true := by
  intro d
  induction d with
  | zero =>
    intro i hi
    refine Ev.step (fun k => by rw [watchmanlaw23_LogJoins.l0]) ?_
    refine ev_neg (by omega) ?_
    refine Ev.bind joined_ev ?_
    refine ev_pos rfl ?_
    refine ev_pos rfl ?_
    refine Ev.bind (texts_ev l l (by omega)) ?_
    refine ev_pos (by simp) ?_
    rw [List.take_of_length_le (by omega), hr]
    refine Ev.bind (texts_ev (p ++ m) (p ++ m) (by rw [List.length_append]; omega)) ?_
    rw [decide_eq_true rfl]
    exact Ev.now _
  | succ d ih =>
    intro i hi
    refine Ev.step (fun k => by rw [watchmanlaw23_LogJoins.l0]) ?_
    refine ev_pos (by omega) ?_
    refine ev_pos (by omega) ?_
    rw [put_is _ _ (by rw [List.length_append, List.length_take]; omega)]
    simp only [Option.bind_some]
    refine ev_pos trivial ?_
    have e : p ++ m.take i ++ [rdOf ByteArray.empty m (i : Int)] = p ++ m.take (i + 1) := by
      rw [List.append_assoc, List.take_succ_eq_append_getElem (by omega : i < m.length)]
      congr 2
      simp [rdOf, List.getD_eq_getElem?_getD, List.getElem?_eq_getElem (by omega : i < m.length)]
    rw [e, wr1 (by omega) (by omega)]
    exact ih (i + 1) (by omega)
theorem joins_main (l m : List ByteArray) (n : Int) (hl : l.length ≤ 60) (hm : m.length ≤ 60) : Ev (fun k => watchmanlaw23_LogJoins.j0 k l n m false) true := by
  refine Ev.step (fun k => by rw [watchmanlaw23_LogJoins.j0]) ?_
  refine ev_neg (by decide) ?_
  by_cases h : 0 ≤ n ∧ n ≤ (l.length : Int)
  · refine Ev.bind (join_yes l m n (by omega) (by omega) h.1 h.2) ?_
    refine ev_pos rfl ?_
    have ht : (l.take n.toNat).length = n.toNat := by rw [List.length_take]; omega
    refine ev_pos ?_ ?_
    · rw [wrn (by omega) (by omega)]
      simp only [List.length_append, ht]
      omega
    refine ev_pos h.1 ?_
    refine ev_pos h.2 ?_
    refine Ev.bind (front_ev (l.take n.toNat) _ (by omega)) ?_
    refine ev_pos ?_ ?_
    · rw [pre_iff, ks_app, ht, List.take_append_of_le_length (by rw [ks_len, ht]; exact Nat.le_refl _)]
      exact (List.take_of_length_le (by rw [ks_len, ht]; exact Nat.le_refl _)).symm
    refine ev_pos ?_ ?_
    · simp only [List.length_append, ht]; omega
    refine Ev.bind (texts_ev _ m (by simp only [List.length_drop, List.length_append, ht]; omega)) ?_
    have ed : (l.take n.toNat ++ m).drop n.toNat = m := by
      rw [List.drop_append_of_le_length (by omega), List.drop_eq_nil_of_le (by omega), List.nil_append]
    simp only [ed, decide_true, Bool.not_true]
    refine Ev.step (fun k => by rw [watchmanlaw23_LogJoins.j1]) ?_
    refine ev_neg (by decide) ?_
    rw [since_is l n (by omega) h.1]
    simp only [Option.bind_some]
    refine Ev.bind (join_yes l (l.drop n.toNat) n (by omega) (by rw [List.length_drop]; omega) h.1 h.2) ?_
    refine ev_pos h.1 ?_
    refine ev_pos h.2 ?_
    rw [own_is _ (by rw [ht]; omega)]
    simp only [Option.bind_some, List.take_append_drop]
    have := joins_loop l m (l.take n.toNat ++ m) (l.take n.toNat) hm (by omega) rfl hl m.length 0 (by omega)
    simpa using this
  · refine Ev.bind (join_no l m n (by omega) h) ?_
    refine ev_neg (by simp) ?_
    refine Ev.bind joined_ev ?_
    refine ev_pos rfl ?_
    have ht : Ev (fun k => (watchmanref01_Texts.f k l l).bind fun t => some t) true := by
      refine Ev.bind (texts_ev l l (by omega)) ?_
      rw [decide_eq_true rfl]
      exact Ev.now _
    by_cases h0 : n < 0
    · exact ev_pos h0 ht
    · refine ev_neg h0 ?_
      exact ev_pos (by omega) ht
theorem LogJoins_pure : watchmanlaw23_LogJoins.Pure := by
  intro a n b ha _ _ hb _
  refine Ev.rounds ?_
  unfold watchmanlaw23_LogJoins.f
  have hyes : Ev (fun k => watchmanlaw23_LogJoins.j0 k a n b true) true := by
    refine Ev.step (fun k => by rw [watchmanlaw23_LogJoins.j0]) ?_
    exact ev_pos rfl (Ev.now _)
  obtain ⟨x, h1, h1'⟩ := far_ev a (by omega)
  obtain ⟨y, h2, h2'⟩ := far_ev b (by omega)
  refine Ev.bind h1 ?_
  cases x with
  | true => exact ev_pos rfl hyes
  | false =>
    refine ev_neg (by decide) ?_
    refine Ev.bind h2 ?_
    cases y with
    | true => exact hyes
    | false => exact joins_main a b n (h1' rfl) (h2' rfl)
end Go.Proofs.Ytncoccpgdgdknaa.F
