/- The pure statement of LogFront: what begins with something that begins with something begins with it. -/
import Derived.Test.YtncoccpgdgdknaaL
import Derived.Test.YtncoccpgdgdknaaJ
import Derived.Test.YtncoccpgdgdknaaQLogFront
namespace Go.Proofs.Ytncoccpgdgdknaa.F
open Go.RowKit Go.Proofs.YtncoccpgdgdknaaW.PrintWords Go.Proofs.YtncoccpgdgdknaaW.PrintLast
theorem front_main (a b c : List ByteArray) (ha : a.length ≤ 60) (hb : b.length ≤ 60) (_hc : c.length ≤ 60) : Ev (fun k => watchmanlaw23_LogFront.j0 k a b c false) true := by
  refine Ev.step (fun k => by rw [watchmanlaw23_LogFront.j0]) ?_
  refine ev_neg (by decide) ?_
  refine Ev.bind (common_ev a [b] (by omega) (by simp)) ?_
  have hn := (le_cp (ks a) (ks b) (cp (ks a) (ks b))).1 (Nat.le_refl _)
  rw [ks_len, ks_len] at hn
  rw [cm_two]
  generalize hN : cp (ks a) (ks b) = n at hn
  have hf1 : pre (a.take n) b = true := by
    rw [pre_iff, ks_take, List.length_take, Nat.min_eq_left hn.1, hn.2.2]
  refine ev_neg (by omega) ?_
  refine ev_neg (by omega) ?_
  refine ev_neg (by omega) ?_
  refine ev_pos (by omega) ?_
  refine ev_pos (by omega) ?_
  refine Ev.bind (front_ev (a.take n) b (by rw [List.length_take]; omega)) ?_
  rw [hf1]
  refine ev_pos rfl ?_
  have hj2 : Ev (fun k => watchmanlaw23_LogFront.j2 k a b (n : Int) false) true := by
    refine Ev.step (fun k => by rw [watchmanlaw23_LogFront.j2]) ?_
    refine ev_neg (by decide) ?_
    refine Ev.bind joined_ev ?_
    refine ev_pos rfl ?_
    refine Ev.bind (front_ev a b (by omega)) ?_
    have hp : pre a b = decide (n = a.length) := by unfold pre; rw [hN]
    have hx : ((n : Int) == (a.length : Int)) = pre a b := by
      rw [hp]
      by_cases h : n = a.length
      · simp [h]
      · have : ¬ ((n : Int) = (a.length : Int)) := by omega
        simp [h, this]
    have hend : Ev (fun k => (log_Front.f k a b).bind fun t272 => if (t272 == ((n : Int) == (a.length : Int))) = true then (log_Common.f k [a]).bind fun t276 => some (t276 == (a.length : Int)) else none) true := by
      refine Ev.bind (front_ev a b (by omega)) ?_
      refine ev_pos (by rw [hx]; simp) ?_
      refine Ev.bind (common_ev a [] (by omega) (by simp)) ?_
      have e : cm a [] = a.length := by
        have h1 := ((le_cm a [] _).1 (Nat.le_refl _)).1
        have h2 := (le_cm a [] a.length).2 ⟨Nat.le_refl _, by simp⟩
        omega
      rw [e]
      simp only [BEq.rfl]
      exact Ev.now _
    cases h1 : pre a b with
    | true =>
      refine ev_pos rfl ?_
      refine Ev.bind (front_ev b a (by omega)) ?_
      refine Ev.bind (texts_ev a b (by omega)) ?_
      refine ev_pos ?_ hend
      have e1 := (pre_iff a b).1 h1
      cases h2 : pre b a with
      | true =>
        have e2 := (pre_iff b a).1 h2
        have hl1 := congrArg List.length e1
        have hl2 := congrArg List.length e2
        rw [List.length_take, ks_len, ks_len] at hl1 hl2
        have : ks a = ks b := by
          rw [e1, List.take_of_length_le (by rw [ks_len]; omega)]
        simp [this]
      | false =>
        have : ¬ (ks a = ks b) := fun e => by
          have : pre b a = true := by
            rw [pre_iff, e, List.take_of_length_le (by rw [ks_len]; exact Nat.le_refl _)]
          rw [h2] at this; cases this
        simp [this]
    | false =>
      refine ev_neg (by decide) ?_
      refine Ev.bind (texts_ev a b (by omega)) ?_
      refine ev_pos ?_ hend
      have : ¬ (ks a = ks b) := fun e => by
        have : pre a b = true := by
          rw [pre_iff, e, List.take_of_length_le (by rw [ks_len]; have := congrArg List.length e; rw [ks_len, ks_len] at this; omega)]
        rw [h1] at this; cases this
      simp [this]
  have hj1 : Ev (fun k => watchmanlaw23_LogFront.j1 k a b c (n : Int) false) true := by
    refine Ev.step (fun k => by rw [watchmanlaw23_LogFront.j1]) ?_
    refine ev_neg (by decide) ?_
    refine Ev.bind (front_ev a b (by omega)) ?_
    cases h1 : pre a b with
    | false => exact ev_neg (by decide) hj2
    | true =>
      refine ev_pos rfl ?_
      refine Ev.bind (front_ev b c (by omega)) ?_
      cases h2 : pre b c with
      | false => exact ev_neg (by decide) hj2
      | true =>
        refine ev_pos rfl ?_
        refine Ev.bind (front_ev a c (by omega)) ?_
        have h3 : pre a c = true := by
          have e1 := (pre_iff a b).1 h1
          have e2 := (pre_iff b c).1 h2
          have hl1 := congrArg List.length e1
          rw [List.length_take, ks_len, ks_len] at hl1
          rw [pre_iff]
          rw [e2, List.take_take, Nat.min_eq_left (by omega)] at e1
          exact e1
        rw [h3]
        exact hj2
  by_cases h1 : n < a.length
  · refine ev_pos (by omega) ?_
    by_cases h2 : n < b.length
    · refine ev_pos (by omega) ?_
      have e : ((rdOf ByteArray.empty a (n : Int)).toList == (rdOf ByteArray.empty b (n : Int)).toList) = false := by
        rw [Bool.eq_false_iff]
        intro h
        have h := eq_of_beq h
        have := (cp_more a b n (by omega) h1).2 ⟨h2, h.symm⟩
        omega
      rw [e]
      exact hj1
    · exact ev_neg (by omega) hj1
  · exact ev_neg (by omega) hj1
theorem LogFront_pure : watchmanlaw23_LogFront.Pure := by
  intro a b c ha _ hb _ hc _
  refine Ev.rounds ?_
  unfold watchmanlaw23_LogFront.f
  have hyes : Ev (fun k => watchmanlaw23_LogFront.j0 k a b c true) true := by
    refine Ev.step (fun k => by rw [watchmanlaw23_LogFront.j0]) ?_
    exact ev_pos rfl (Ev.now _)
  obtain ⟨x, h1, h1'⟩ := far_ev a (by omega)
  obtain ⟨y, h2, h2'⟩ := far_ev b (by omega)
  obtain ⟨z, h3, h3'⟩ := far_ev c (by omega)
  refine Ev.bind h1 ?_
  cases x with
  | true => exact ev_pos rfl hyes
  | false =>
    refine ev_neg (by decide) ?_
    refine Ev.bind h2 ?_
    cases y with
    | true => exact ev_pos rfl hyes
    | false =>
      refine ev_neg (by decide) ?_
      refine Ev.bind h3 ?_
      cases z with
      | true => exact hyes
      | false => exact front_main a b c (h1' rfl) (h2' rfl) (h3' rfl)
end Go.Proofs.Ytncoccpgdgdknaa.F
