/- The pure statement of BoardBeds: just the alarms of some beds come, each once, in the board's order. -/
import Derived.Test.YtcfpbmdndapeaaaH
import Derived.Test.YtcfpbmdndapeaaaF15
import Derived.Test.YtcfpbmdndapeaaaQBoardBeds
namespace Go.Proofs.Ytcfpbmdndapeaaa.F
open Go.RowKit Go.Proofs.YtcfpbmdndapeaaaV.PrintWords Go.Proofs.YtcfpbmdndapeaaaV.PrintLast
theorem rdI (l : List Int) (i : Nat) (h : i < l.length) : rd l (i : Int) = l[i] := by
  simp [rd, List.getD_eq_getElem?_getD, List.getElem?_eq_getElem h]
theorem beds_l1 (beds : List Int) (out l : List Al) (m nn n : Int) (i : Nat) (hi : i < l.length) (hb : beds.length ≤ 60) (r : Bool)
    (hfin : Ev (fun k => watchmanlaw08_BoardBeds.l1 k beds out n (i : Int) (beds.contains l[i].f0.f0) (beds.length : Int) m nn l) r) : ∀ (d q : Nat) (b : Bool), q + d = beds.length → b = (beds.take q).contains l[i].f0.f0 →
    Ev (fun k => watchmanlaw08_BoardBeds.l1 k beds out n (i : Int) b (q : Int) m nn l) r := by
  intro d
  induction d with
  | zero =>
    intro q b hq hb2
    have e : q = beds.length := by omega
    subst e
    rw [List.take_length] at hb2
    rw [hb2]; exact hfin
  | succ d ih =>
    intro q b hq hb2
    have hq2 : q < beds.length := by omega
    have e : ((q + 1 : Nat) : Int) = wrap64 ((q : Int) + 1) := by rw [wr1 (by omega) (by omega)]; rfl
    have et : (beds.take (q + 1)).contains l[i].f0.f0 = ((beds.take q).contains l[i].f0.f0 || (beds[q] == l[i].f0.f0)) := by
      rw [Bool.eq_iff_iff, Bool.or_eq_true, List.contains_iff_mem, List.contains_iff_mem, List.take_succ_eq_append_getElem hq2, List.mem_append, List.mem_singleton, beq_iff_eq]
      constructor
      · rintro (h | h)
        · exact .inl h
        · exact .inr h.symm
      · rintro (h | h)
        · exact .inl h
        · exact .inr h.symm
    refine Ev.step (fun k => by rw [watchmanlaw08_BoardBeds.l1]) ?_
    refine ev_pos (by omega) ?_
    cases hbb : b with
    | true =>
      refine ev_pos rfl ?_
      have := ih (q + 1) true (by omega) (by rw [et, ← hb2, hbb]; rfl)
      rw [e] at this
      exact this
    | false =>
      refine ev_neg (by decide) (ev_pos (by omega) (ev_pos (by omega) (ev_pos (by omega) ?_)))
      rw [rdI beds q hq2, rdA l i hi]
      have := ih (q + 1) (beds[q] == l[i].f0.f0) (by omega) (by rw [et, ← hb2, hbb]; rfl)
      rw [e] at this
      exact this
theorem beds_l0 (beds : List Int) (l : List Al) (m nn : Int) (hb : beds.length ≤ 60) (hl : l.length ≤ 60) (out : List Al) (ho : out = l.filter (fun x => beds.contains x.f0.f0)) : ∀ (d i : Nat), i + d = l.length →
    Ev (fun k => watchmanlaw08_BoardBeds.l0 k beds out ((((l.take i).filter (fun x => beds.contains x.f0.f0)).length : Nat) : Int) (i : Int) m nn l) true := by
  intro d
  induction d with
  | zero =>
    intro i hi
    have e : i = l.length := by omega
    subst e
    rw [List.take_length]
    refine Ev.step (fun k => by rw [watchmanlaw08_BoardBeds.l0]) ?_
    refine ev_neg (by omega) (Ev.bind boards_ev (ev_pos rfl ?_))
    rw [← ho, show ((out.length : Int) == (out.length : Int)) = true from beq_self_eq_true _]
    exact Ev.now _
  | succ d ih =>
    intro i hi
    have hi2 : i < l.length := by omega
    have h1 := ih (i + 1) (by omega)
    have e : ((i + 1 : Nat) : Int) = wrap64 ((i : Int) + 1) := by rw [wr1 (by omega) (by omega)]; rfl
    rw [e] at h1
    have hout : out = (l.take i).filter (fun x => beds.contains x.f0.f0) ++ ((l[i] :: l.drop (i + 1)).filter (fun x => beds.contains x.f0.f0)) := by
      rw [← List.drop_eq_getElem_cons hi2, ← List.filter_append, List.take_append_drop]
      exact ho
    have hle : ((l.take i).filter (fun x => beds.contains x.f0.f0)).length ≤ 60 := by
      have := List.length_filter_le (fun x : Al => beds.contains x.f0.f0) (l.take i)
      rw [List.length_take] at this
      omega
    refine Ev.step (fun k => by rw [watchmanlaw08_BoardBeds.l0]) ?_
    refine ev_pos (by omega) ?_
    refine beds_l1 beds _ l m nn _ i hi2 hb true ?_ beds.length 0 false (by omega) (by simp)
    refine Ev.step (fun k => by rw [watchmanlaw08_BoardBeds.l1]) ?_
    refine ev_neg (by omega) ?_
    rw [List.take_succ_eq_append_getElem hi2, List.filter_append] at h1
    cases hc : beds.contains l[i].f0.f0 with
    | false =>
      refine ev_neg (by decide) ?_
      rw [List.filter_cons_of_neg (by rw [hc]; decide), List.filter_nil, List.append_nil] at h1
      exact h1
    | true =>
      rw [List.filter_cons_of_pos (by exact hc), List.filter_nil, List.length_append, List.length_singleton] at h1
      rw [List.filter_cons_of_pos (by exact hc)] at hout
      have hlen : ((l.take i).filter (fun x => beds.contains x.f0.f0)).length < out.length := by
        rw [hout, List.length_append, List.length_cons]; omega
      have hget : rd_T28 out ((((l.take i).filter (fun x => beds.contains x.f0.f0)).length : Nat) : Int) = l[i] := by
        rw [rdA _ _ hlen]
        have : ∀ (A B : List Al) (y : Al) (q : List Al) (hq : A.length < q.length), q = A ++ y :: B → q[A.length] = y := by
          intro A B y q hq e
          subst e
          simp
        exact this _ _ _ _ hlen hout
      refine ev_pos rfl (ev_neg (by omega) (ev_pos (by omega) (ev_pos (by omega) (ev_pos (by omega) (ev_pos (by omega) ?_)))))
      rw [hget, rdA l i hi2]
      refine ev_neg (by simp) ?_
      rw [wr1 (by omega) (by omega)]
      exact h1
theorem BoardBeds_pure : watchmanlaw08_BoardBeds.Pure := by
  intro m n l beds
  intros
  refine Ev.rounds ?_
  unfold watchmanlaw08_BoardBeds.f watchmanlaw08_far.f
  have hyes : Ev (fun k => watchmanlaw08_BoardBeds.j0 k beds true m n l) true := by
    refine Ev.step (fun k => by rw [watchmanlaw08_BoardBeds.j0]) ?_
    exact ev_pos rfl (Ev.now _)
  simp only [Option.bind_some]
  by_cases hfar : (l.length : Int) > 60
  · exact ev_pos (decide_eq_true hfar) hyes
  · refine ev_neg (by rw [decide_eq_false hfar]; decide) ?_
    by_cases hb : (beds.length : Int) > 60
    · rw [decide_eq_true hb]; exact hyes
    · rw [decide_eq_false hb]
      refine Ev.step (fun k => by rw [watchmanlaw08_BoardBeds.j0]) ?_
      refine ev_neg (by decide) ?_
      unfold board_Of.f
      rw [if_pos (by omega)]
      simp only [Option.bind_some]
      exact beds_l0 beds l m n (by omega) (by omega) _ rfl l.length 0 (by omega)
end Go.Proofs.Ytcfpbmdndapeaaa.F
