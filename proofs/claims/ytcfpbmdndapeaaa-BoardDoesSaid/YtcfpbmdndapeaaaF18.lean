-- Written by a program of this session (xprint.py), out of the translation and of contracts proved by hand.
import Derived.Test.YtcfpbmdndapeaaaF0
import Derived.Test.YtcfpbmdndapeaaaF2
namespace Go.Proofs.Ytcfpbmdndapeaaa.F
open Go.RowKit Go.Proofs.YtcfpbmdndapeaaaV.PrintWords Go.Proofs.YtcfpbmdndapeaaaV.PrintLast Go.Proofs.YtcfpbmdndapeaaaV.PrintMore
attribute [local go_sem] max2_int min2_int max_two min_two max_three min_three max_four min_four   -- for this text's walks alone
set_option linter.unusedVariables false
set_option linter.unusedSimpArgs false

attribute [local go_sem high] eqA28
/-! ### board_New: function 23 -/
def board_New.f (a0 : Int) : Option (Int × Int × (List (S28)) × Int) := if a0 < 1 then (some (0, 0, ([] : List (S28)), 1)) else (if a0 > 200 then (some (0, 0, ([] : List (S28)), 1)) else (some (a0, 0, ([] : List (S28)), 0)))
set_option maxHeartbeats 8000000 in
set_option maxRecDepth 100000 in
theorem board_New.calls (a0 : Int) (r1 : Int) (r2 : Int) (r3 : List (S28)) (r4 : Int) (w : World) (h : board_New.f a0 = some (r1, r2, r3, r4)) :
  Calls Try.prog 23 #[.int .i64 a0] w fun e w' => ∃ v2_ : Value, e = .returned (.tuple #[.agg #[.int .i64 r1, .int .i64 r2, v2_], .int .i64 r4]) ∧ Kd.R k28 28 w' w.heap.size (fun _ => True) v2_ r3 ∧ Below w.heap.size w w' := by
 have hu24 := Try.underlying24
 have HB := Aside0.mk (Below.refl w.heap.size w)
 have H : (if a0 < 1 then (some (0, 0, ([] : List (S28)), 1)) else (if a0 > 200 then (some (0, 0, ([] : List (S28)), 1)) else (some (a0, 0, ([] : List (S28)), 0)))) = some (r1, r2, r3, r4) := h
 clear h
 by_cases c2 : a0 < 1
 ·rw [if_pos c2] at H
  have c2b0 : decide (a0 < 1) = true := decide_eq_true c2
  clear c2
  simp only [Option.some.injEq, Prod.mk.injEq] at H
  obtain ⟨rfl, rfl, rfl, rfl⟩ := H
  go_enter Try.func23, Try.ntmps23
  go_wp2_with (first | ((with_reducible refine gate_dst (N := 2) rfl ?_); refine box_event ?hg (N := 2) ?hd (cs := #[.int .i64 0, .int .i64 0, .slice none 0 0]) (t := 24) ?hr ?_; (case hd => rfl); (case hg => rfl); (case hr => first | (go_simp; done) | (go_simp; rfl)); intro gb331 hg w3 hbox hb; have BK331 := Aside0.mk (hbox); have GW331 := Aside0.mk ((by rw [hg]; exact (below_size HB.out) : w.heap.size ≤ gb331)); have GE331 := Aside0.mk ((by rw [hg]; exact (below_size HB.out) : w.heap.size ≤ gb331)); replace HB := Aside0.mk (below_step HB.out hb); clear hb hbox hg; have hcz4_0 : w3.cell? ⟨gb331, 0, none⟩ = some (.int .i64 0) := (blk_cell BK331.out 0).trans rfl; have hcz4_1 : w3.cell? ⟨gb331, 1, none⟩ = some (.int .i64 0) := (blk_cell BK331.out 1).trans rfl; have hcz4_2 : w3.cell? ⟨gb331, 2, none⟩ = some (.slice none 0 0) := (blk_cell BK331.out 2).trans rfl; have hfz4_0 := blk_frozen BK331.out 0; have hfz4_1 := blk_frozen BK331.out 1; have hfz4_2 := blk_frozen BK331.out 2))
  refine bodyPost_ret (results_ct rfl _ _ gb331 24 #[.int .i64 0, .int .i64 0, .slice none 0 0] (0, 0) _ rfl (by refine blk_put (cs := #[.int .i64 0, .int .i64 0, .slice none 0 0]) ?_ 2 _ rfl; refine blk_put (cs := #[.int .i64 0, .int .i64 0, .slice none 0 0]) ?_ 1 _ rfl; refine blk_put (cs := #[.int .i64 0, .int .i64 0, .slice none 0 0]) ?_ 0 _ rfl; exact BK331.out) Try.underlying24 rfl (by kernel_rfl)) rfl ?_
  exact ⟨_, by first | rfl | (simp [errW_none, errW_some] <;> rfl) | (simp [*, errW_none, errW_some] <;> rfl), by first | exact Kd.R_nil _ _ _ _ _ | exact Kd.N_nil _ _ _ _ _ | exact Kd.V_nil _ _ _ _ _ | exact Kd.Q_nil _ _ _ _ _ | exact Kd.S_nil _ _ _ _ _, by repeat (with_reducible first | exact HB.out | apply pw_below_drewN | apply below_drew1 | refine below_set ?_ GE331.out)⟩
 ·rw [if_neg c2] at H
  have c2b0 : decide (a0 < 1) = false := decide_eq_false c2
  clear c2
  by_cases c5 : a0 > 200
  ·rw [if_pos c5] at H
   have c5b0 : decide (200 < a0) = true := decide_eq_true c5
   clear c5
   simp only [Option.some.injEq, Prod.mk.injEq] at H
   obtain ⟨rfl, rfl, rfl, rfl⟩ := H
   go_enter Try.func23, Try.ntmps23
   go_wp2_with (first | ((with_reducible refine gate_dst (N := 2) rfl ?_); refine box_event ?hg (N := 2) ?hd (cs := #[.int .i64 0, .int .i64 0, .slice none 0 0]) (t := 24) ?hr ?_; (case hd => rfl); (case hg => rfl); (case hr => first | (go_simp; done) | (go_simp; rfl)); intro gb331 hg w6 hbox hb; have BK331 := Aside0.mk (hbox); have GW331 := Aside0.mk ((by rw [hg]; exact (below_size HB.out) : w.heap.size ≤ gb331)); have GE331 := Aside0.mk ((by rw [hg]; exact (below_size HB.out) : w.heap.size ≤ gb331)); replace HB := Aside0.mk (below_step HB.out hb); clear hb hbox hg; have hcz7_0 : w6.cell? ⟨gb331, 0, none⟩ = some (.int .i64 0) := (blk_cell BK331.out 0).trans rfl; have hcz7_1 : w6.cell? ⟨gb331, 1, none⟩ = some (.int .i64 0) := (blk_cell BK331.out 1).trans rfl; have hcz7_2 : w6.cell? ⟨gb331, 2, none⟩ = some (.slice none 0 0) := (blk_cell BK331.out 2).trans rfl; have hfz7_0 := blk_frozen BK331.out 0; have hfz7_1 := blk_frozen BK331.out 1; have hfz7_2 := blk_frozen BK331.out 2))
   refine bodyPost_ret (results_ct rfl _ _ gb331 24 #[.int .i64 0, .int .i64 0, .slice none 0 0] (0, 0) _ rfl (by refine blk_put (cs := #[.int .i64 0, .int .i64 0, .slice none 0 0]) ?_ 2 _ rfl; refine blk_put (cs := #[.int .i64 0, .int .i64 0, .slice none 0 0]) ?_ 1 _ rfl; refine blk_put (cs := #[.int .i64 0, .int .i64 0, .slice none 0 0]) ?_ 0 _ rfl; exact BK331.out) Try.underlying24 rfl (by kernel_rfl)) rfl ?_
   exact ⟨_, by first | rfl | (simp [errW_none, errW_some] <;> rfl) | (simp [*, errW_none, errW_some] <;> rfl), by first | exact Kd.R_nil _ _ _ _ _ | exact Kd.N_nil _ _ _ _ _ | exact Kd.V_nil _ _ _ _ _ | exact Kd.Q_nil _ _ _ _ _ | exact Kd.S_nil _ _ _ _ _, by repeat (with_reducible first | exact HB.out | apply pw_below_drewN | apply below_drew1 | refine below_set ?_ GE331.out)⟩
  ·rw [if_neg c5] at H
   have c5b0 : decide (200 < a0) = false := decide_eq_false c5
   clear c5
   simp only [Option.some.injEq, Prod.mk.injEq] at H
   obtain ⟨rfl, rfl, rfl, rfl⟩ := H
   go_enter Try.func23, Try.ntmps23
   go_wp2_with (first | ((with_reducible refine gate_dst (N := 2) rfl ?_); refine box_event ?hg (N := 2) ?hd (cs := #[.int .i64 0, .int .i64 0, .slice none 0 0]) (t := 24) ?hr ?_; (case hd => rfl); (case hg => rfl); (case hr => first | (go_simp; done) | (go_simp; rfl)); intro gb331 hg w8 hbox hb; have BK331 := Aside0.mk (hbox); have GW331 := Aside0.mk ((by rw [hg]; exact (below_size HB.out) : w.heap.size ≤ gb331)); have GE331 := Aside0.mk ((by rw [hg]; exact (below_size HB.out) : w.heap.size ≤ gb331)); replace HB := Aside0.mk (below_step HB.out hb); clear hb hbox hg; have hcz9_0 : w8.cell? ⟨gb331, 0, none⟩ = some (.int .i64 0) := (blk_cell BK331.out 0).trans rfl; have hcz9_1 : w8.cell? ⟨gb331, 1, none⟩ = some (.int .i64 0) := (blk_cell BK331.out 1).trans rfl; have hcz9_2 : w8.cell? ⟨gb331, 2, none⟩ = some (.slice none 0 0) := (blk_cell BK331.out 2).trans rfl; have hfz9_0 := blk_frozen BK331.out 0; have hfz9_1 := blk_frozen BK331.out 1; have hfz9_2 := blk_frozen BK331.out 2))
   refine bodyPost_ret (results_ct rfl _ _ gb331 24 #[.int .i64 a0, .int .i64 0, .slice none 0 0] (0, 0) _ rfl (by refine blk_put (cs := #[.int .i64 a0, .int .i64 0, .slice none 0 0]) ?_ 2 _ rfl; refine blk_put (cs := #[.int .i64 a0, .int .i64 0, .slice none 0 0]) ?_ 1 _ rfl; refine blk_put (cs := #[.int .i64 0, .int .i64 0, .slice none 0 0]) ?_ 0 _ rfl; exact BK331.out) Try.underlying24 rfl (by kernel_rfl)) rfl ?_
   exact ⟨_, by first | rfl | (simp [errW_none, errW_some] <;> rfl) | (simp [*, errW_none, errW_some] <;> rfl), by first | exact Kd.R_nil _ _ _ _ _ | exact Kd.N_nil _ _ _ _ _ | exact Kd.V_nil _ _ _ _ _ | exact Kd.Q_nil _ _ _ _ _ | exact Kd.S_nil _ _ _ _ _, by repeat (with_reducible first | exact HB.out | apply pw_below_drewN | apply below_drew1 | refine below_set ?_ GE331.out)⟩

/-! ### watchmanref08_New: function 24 -/
def watchmanref08_New.f (a0 : Int) : Option (Int × Int × (List (S28)) × Int) := if a0 < 1 then (some (0, 0, ([] : List (S28)), 1)) else (if a0 > 200 then (some (0, 0, ([] : List (S28)), 1)) else (some (a0, 0, ([] : List (S28)), 0)))
set_option maxHeartbeats 8000000 in
set_option maxRecDepth 100000 in
theorem watchmanref08_New.calls (a0 : Int) (r1 : Int) (r2 : Int) (r3 : List (S28)) (r4 : Int) (w : World) (h : watchmanref08_New.f a0 = some (r1, r2, r3, r4)) :
  Calls Try.prog 24 #[.int .i64 a0] w fun e w' => ∃ v2_ : Value, e = .returned (.tuple #[.agg #[.int .i64 r1, .int .i64 r2, v2_], .int .i64 r4]) ∧ Kd.R k28 28 w' w.heap.size (fun _ => True) v2_ r3 ∧ Below w.heap.size w w' := by
 have hu24 := Try.underlying24
 have HB := Aside0.mk (Below.refl w.heap.size w)
 have H : (if a0 < 1 then (some (0, 0, ([] : List (S28)), 1)) else (if a0 > 200 then (some (0, 0, ([] : List (S28)), 1)) else (some (a0, 0, ([] : List (S28)), 0)))) = some (r1, r2, r3, r4) := h
 clear h
 by_cases c2 : a0 < 1
 ·rw [if_pos c2] at H
  have c2b0 : decide (a0 < 1) = true := decide_eq_true c2
  clear c2
  simp only [Option.some.injEq, Prod.mk.injEq] at H
  obtain ⟨rfl, rfl, rfl, rfl⟩ := H
  go_enter Try.func24, Try.ntmps24
  go_wp2_with (first | ((with_reducible refine gate_dst (N := 2) rfl ?_); refine box_event ?hg (N := 2) ?hd (cs := #[.int .i64 0, .int .i64 0, .slice none 0 0]) (t := 24) ?hr ?_; (case hd => rfl); (case hg => rfl); (case hr => first | (go_simp; done) | (go_simp; rfl)); intro gb332 hg w3 hbox hb; have BK332 := Aside0.mk (hbox); have GW332 := Aside0.mk ((by rw [hg]; exact (below_size HB.out) : w.heap.size ≤ gb332)); have GE332 := Aside0.mk ((by rw [hg]; exact (below_size HB.out) : w.heap.size ≤ gb332)); replace HB := Aside0.mk (below_step HB.out hb); clear hb hbox hg; have hcz4_0 : w3.cell? ⟨gb332, 0, none⟩ = some (.int .i64 0) := (blk_cell BK332.out 0).trans rfl; have hcz4_1 : w3.cell? ⟨gb332, 1, none⟩ = some (.int .i64 0) := (blk_cell BK332.out 1).trans rfl; have hcz4_2 : w3.cell? ⟨gb332, 2, none⟩ = some (.slice none 0 0) := (blk_cell BK332.out 2).trans rfl; have hfz4_0 := blk_frozen BK332.out 0; have hfz4_1 := blk_frozen BK332.out 1; have hfz4_2 := blk_frozen BK332.out 2))
  refine bodyPost_ret (results_ct rfl _ _ gb332 24 #[.int .i64 0, .int .i64 0, .slice none 0 0] (0, 0) _ rfl (by refine blk_put (cs := #[.int .i64 0, .int .i64 0, .slice none 0 0]) ?_ 2 _ rfl; refine blk_put (cs := #[.int .i64 0, .int .i64 0, .slice none 0 0]) ?_ 1 _ rfl; refine blk_put (cs := #[.int .i64 0, .int .i64 0, .slice none 0 0]) ?_ 0 _ rfl; exact BK332.out) Try.underlying24 rfl (by kernel_rfl)) rfl ?_
  exact ⟨_, by first | rfl | (simp [errW_none, errW_some] <;> rfl) | (simp [*, errW_none, errW_some] <;> rfl), by first | exact Kd.R_nil _ _ _ _ _ | exact Kd.N_nil _ _ _ _ _ | exact Kd.V_nil _ _ _ _ _ | exact Kd.Q_nil _ _ _ _ _ | exact Kd.S_nil _ _ _ _ _, by repeat (with_reducible first | exact HB.out | apply pw_below_drewN | apply below_drew1 | refine below_set ?_ GE332.out)⟩
 ·rw [if_neg c2] at H
  have c2b0 : decide (a0 < 1) = false := decide_eq_false c2
  clear c2
  by_cases c5 : a0 > 200
  ·rw [if_pos c5] at H
   have c5b0 : decide (200 < a0) = true := decide_eq_true c5
   clear c5
   simp only [Option.some.injEq, Prod.mk.injEq] at H
   obtain ⟨rfl, rfl, rfl, rfl⟩ := H
   go_enter Try.func24, Try.ntmps24
   go_wp2_with (first | ((with_reducible refine gate_dst (N := 2) rfl ?_); refine box_event ?hg (N := 2) ?hd (cs := #[.int .i64 0, .int .i64 0, .slice none 0 0]) (t := 24) ?hr ?_; (case hd => rfl); (case hg => rfl); (case hr => first | (go_simp; done) | (go_simp; rfl)); intro gb332 hg w6 hbox hb; have BK332 := Aside0.mk (hbox); have GW332 := Aside0.mk ((by rw [hg]; exact (below_size HB.out) : w.heap.size ≤ gb332)); have GE332 := Aside0.mk ((by rw [hg]; exact (below_size HB.out) : w.heap.size ≤ gb332)); replace HB := Aside0.mk (below_step HB.out hb); clear hb hbox hg; have hcz7_0 : w6.cell? ⟨gb332, 0, none⟩ = some (.int .i64 0) := (blk_cell BK332.out 0).trans rfl; have hcz7_1 : w6.cell? ⟨gb332, 1, none⟩ = some (.int .i64 0) := (blk_cell BK332.out 1).trans rfl; have hcz7_2 : w6.cell? ⟨gb332, 2, none⟩ = some (.slice none 0 0) := (blk_cell BK332.out 2).trans rfl; have hfz7_0 := blk_frozen BK332.out 0; have hfz7_1 := blk_frozen BK332.out 1; have hfz7_2 := blk_frozen BK332.out 2))
   refine bodyPost_ret (results_ct rfl _ _ gb332 24 #[.int .i64 0, .int .i64 0, .slice none 0 0] (0, 0) _ rfl (by refine blk_put (cs := #[.int .i64 0, .int .i64 0, .slice none 0 0]) ?_ 2 _ rfl; refine blk_put (cs := #[.int .i64 0, .int .i64 0, .slice none 0 0]) ?_ 1 _ rfl; refine blk_put (cs := #[.int .i64 0, .int .i64 0, .slice none 0 0]) ?_ 0 _ rfl; exact BK332.out) Try.underlying24 rfl (by kernel_rfl)) rfl ?_
   exact ⟨_, by first | rfl | (simp [errW_none, errW_some] <;> rfl) | (simp [*, errW_none, errW_some] <;> rfl), by first | exact Kd.R_nil _ _ _ _ _ | exact Kd.N_nil _ _ _ _ _ | exact Kd.V_nil _ _ _ _ _ | exact Kd.Q_nil _ _ _ _ _ | exact Kd.S_nil _ _ _ _ _, by repeat (with_reducible first | exact HB.out | apply pw_below_drewN | apply below_drew1 | refine below_set ?_ GE332.out)⟩
  ·rw [if_neg c5] at H
   have c5b0 : decide (200 < a0) = false := decide_eq_false c5
   clear c5
   simp only [Option.some.injEq, Prod.mk.injEq] at H
   obtain ⟨rfl, rfl, rfl, rfl⟩ := H
   go_enter Try.func24, Try.ntmps24
   go_wp2_with (first | ((with_reducible refine gate_dst (N := 2) rfl ?_); refine box_event ?hg (N := 2) ?hd (cs := #[.int .i64 0, .int .i64 0, .slice none 0 0]) (t := 24) ?hr ?_; (case hd => rfl); (case hg => rfl); (case hr => first | (go_simp; done) | (go_simp; rfl)); intro gb332 hg w8 hbox hb; have BK332 := Aside0.mk (hbox); have GW332 := Aside0.mk ((by rw [hg]; exact (below_size HB.out) : w.heap.size ≤ gb332)); have GE332 := Aside0.mk ((by rw [hg]; exact (below_size HB.out) : w.heap.size ≤ gb332)); replace HB := Aside0.mk (below_step HB.out hb); clear hb hbox hg; have hcz9_0 : w8.cell? ⟨gb332, 0, none⟩ = some (.int .i64 0) := (blk_cell BK332.out 0).trans rfl; have hcz9_1 : w8.cell? ⟨gb332, 1, none⟩ = some (.int .i64 0) := (blk_cell BK332.out 1).trans rfl; have hcz9_2 : w8.cell? ⟨gb332, 2, none⟩ = some (.slice none 0 0) := (blk_cell BK332.out 2).trans rfl; have hfz9_0 := blk_frozen BK332.out 0; have hfz9_1 := blk_frozen BK332.out 1; have hfz9_2 := blk_frozen BK332.out 2))
   refine bodyPost_ret (results_ct rfl _ _ gb332 24 #[.int .i64 a0, .int .i64 0, .slice none 0 0] (0, 0) _ rfl (by refine blk_put (cs := #[.int .i64 a0, .int .i64 0, .slice none 0 0]) ?_ 2 _ rfl; refine blk_put (cs := #[.int .i64 a0, .int .i64 0, .slice none 0 0]) ?_ 1 _ rfl; refine blk_put (cs := #[.int .i64 0, .int .i64 0, .slice none 0 0]) ?_ 0 _ rfl; exact BK332.out) Try.underlying24 rfl (by kernel_rfl)) rfl ?_
   exact ⟨_, by first | rfl | (simp [errW_none, errW_some] <;> rfl) | (simp [*, errW_none, errW_some] <;> rfl), by first | exact Kd.R_nil _ _ _ _ _ | exact Kd.N_nil _ _ _ _ _ | exact Kd.V_nil _ _ _ _ _ | exact Kd.Q_nil _ _ _ _ _ | exact Kd.S_nil _ _ _ _ _, by repeat (with_reducible first | exact HB.out | apply pw_below_drewN | apply below_drew1 | refine below_set ?_ GE332.out)⟩

/-! ### watchmanref07_Same: function 27 -/
def watchmanref07_Same.l0 : Nat → List (S28) → List (S28) → Int → Option (Bool)
 | 0, _, _, _ => none
 | k + 1, x0, x1, x5 => if x5 < (x0.length : Int) then (if 0 ≤ x5 then (if x5 < (x1.length : Int) then (if ((!(((rd_T28 x0 x5).f0.f0) == ((rd_T28 x1 x5).f0.f0)) || (!(((rd_T28 x0 x5).f0.f1) == ((rd_T28 x1 x5).f0.f1)))) || (!(((rd_T28 x0 x5).f1) == ((rd_T28 x1 x5).f1)) || (!(((rd_T28 x0 x5).f2) == ((rd_T28 x1 x5).f2)) || (!(((rd_T28 x0 x5).f3) == ((rd_T28 x1 x5).f3)) || (!(((rd_T28 x0 x5).f4) == ((rd_T28 x1 x5).f4))))))) = true then (some false) else (watchmanref07_Same.l0 k x0 x1 (wrap64 (x5 + 1)))) else (none)) else (none)) else (some true)
def watchmanref07_Same.f (k : Nat) (l0 : List (S28)) (l1 : List (S28)) : Option (Bool) := if (l0.length : Int) = (l1.length : Int) then (watchmanref07_Same.l0 k l0 l1 0) else (some false)
theorem watchmanref07_Same.mono_l : ∀ k, (∀ y0 y1 y2, LeO (watchmanref07_Same.l0 k y0 y1 y2) (watchmanref07_Same.l0 (k + 1) y0 y1 y2))
 | 0 => fun _ _ _ r h => by simp [watchmanref07_Same.l0] at h
 | k + 1 => by
  have ih0 := watchmanref07_Same.mono_l k
  ·intro y0 y1 y2
   unfold watchmanref07_Same.l0
   repeat' first
   | (with_reducible exact ih0 _ _ _)
   | (with_reducible exact LeO.refl _)
   | (with_reducible exact LeO.none _)
   | (with_reducible refine LeO.ite ?_ ?_)
   | (with_reducible refine LeO.bind ?_ (fun _ => ?_))
   | exact ih0 _ _ _
   | exact LeO.none _
   | refine LeO.ite ?_ ?_
   | refine LeO.bind ?_ (fun _ => ?_)
theorem watchmanref07_Same.mono : ∀ a0 a1 k, LeO (watchmanref07_Same.f k a0 a1) (watchmanref07_Same.f (k + 1) a0 a1) := by
 intro a0 a1 k
 have ih0 := watchmanref07_Same.mono_l k
 unfold watchmanref07_Same.f
 repeat' first
   | (with_reducible exact ih0 _ _ _)
   | (with_reducible exact LeO.refl _)
   | (with_reducible exact LeO.none _)
   | (with_reducible refine LeO.ite ?_ ?_)
   | (with_reducible refine LeO.bind ?_ (fun _ => ?_))
   | exact ih0 _ _ _
   | exact LeO.none _
   | refine LeO.ite ?_ ?_
   | refine LeO.bind ?_ (fun _ => ?_)
set_option maxHeartbeats 8000000 in
set_option maxRecDepth 100000 in
theorem watchmanref07_Same.calls (k : Nat) (A0 : Option Addr) (c0 : Nat) (l0 : List (S28)) (A1 : Option Addr) (c1 : Nat) (l1 : List (S28)) (r : Bool) (w : World) (hr0 : Kd.C k28 w A0 l0.length l0) (hc0 : l0.length ≤ c0) (hr1 : Kd.C k28 w A1 l1.length l1) (hc1 : l1.length ≤ c1) (h : watchmanref07_Same.f k l0 l1 = some r) :
  Calls Try.prog 27 #[.slice A0 l0.length c0, .slice A1 l1.length c1] w fun e w' => e = .returned (.bool r) ∧ Drawn0 w w' := by
 have hu28 := Try.underlying28
 have HR0 := Aside0.mk hr0
 have HC0 := Aside0.mk hc0
 clear hr0 hc0
 have HR1 := Aside0.mk hr1
 have HC1 := Aside0.mk hc1
 clear hr1 hc1
 have H : (if (l0.length : Int) = (l1.length : Int) then (watchmanref07_Same.l0 k l0 l1 0) else (some false)) = some r := h
 clear h
 by_cases c3 : (l0.length : Int) = (l1.length : Int)
 ·rw [if_pos c3] at H
  have c3b0 : ((l0.length : Int) == (l1.length : Int)) = true := beq_iff_eq.mpr c3
  have c3b1 : ((l0.length : Int) != (l1.length : Int)) = false := bne_eq_false_iff_eq.mpr c3
  have c3b2 : (l0.length == l1.length) = true := by first | simpa using c3 | (simp at c3 ⊢; omega)
  clear c3
  have H' := Aside0.mk H
  clear H
  go_enter Try.func27, Try.ntmps27
  go_wp2
  repeat (go_quiet (fail); try go_wp2)
  go_loopg [5] k (fun kq v5 w' => ∃ (x5_1 : Int), v5 = .int .i64 x5_1 ∧ Aside0 (watchmanref07_Same.l0 kq l0 l1 x5_1 = some r) ∧ Aside0 (kq ≤ k) ∧ Drawn0 w w')
  case atStart => exact ⟨(0), (by first | rfl | (simp; done) | (simp [*]; done)), H', ⟨Nat.le_refl _⟩, by repeat (first | exact Drawn0.refl _ | apply Drawn0.step)⟩
  case round =>
   clear H'
   try clear c1; try clear c2; try clear p2; try clear c3; try clear c3b0; try clear c3b1; try clear c3b2
   obtain ⟨x5_1, rfl, HA, HK1, ⟨m1, rfl⟩⟩ := hrel
   cases gk with
   | zero => exact absurd HA.out (by simp [watchmanref07_Same.l0])
   | succ k1 =>
    have H := HA.out
    clear HA
    simp only [watchmanref07_Same.l0] at H
    by_cases c4 : x5_1 < (l0.length : Int)
    ·rw [if_pos c4] at H
     have c4b0 : decide (x5_1 < (l0.length : Int)) = true := decide_eq_true c4
     clear c4
     by_cases c5 : 0 ≤ x5_1
     ·rw [if_pos c5] at H
      have c5b0 : decide (0 ≤ x5_1) = true := decide_eq_true c5
      clear c5
      by_cases c6 : x5_1 < (l1.length : Int)
      ·rw [if_pos c6] at H
       have c6b0 : decide (x5_1 < (l1.length : Int)) = true := decide_eq_true c6
       clear c6
       by_cases c7 : ((!(((rd_T28 l0 x5_1).f0.f0) == ((rd_T28 l1 x5_1).f0.f0)) || (!(((rd_T28 l0 x5_1).f0.f1) == ((rd_T28 l1 x5_1).f0.f1)))) || (!(((rd_T28 l0 x5_1).f1) == ((rd_T28 l1 x5_1).f1)) || (!(((rd_T28 l0 x5_1).f2) == ((rd_T28 l1 x5_1).f2)) || (!(((rd_T28 l0 x5_1).f3) == ((rd_T28 l1 x5_1).f3)) || (!(((rd_T28 l0 x5_1).f4) == ((rd_T28 l1 x5_1).f4))))))) = true
       ·rw [if_pos c7] at H
        have c7b0 : ((!(((rd_T28 l0 x5_1).f0.f0) == ((rd_T28 l1 x5_1).f0.f0)) || (!(((rd_T28 l0 x5_1).f0.f1) == ((rd_T28 l1 x5_1).f0.f1)))) || (!(((rd_T28 l0 x5_1).f1) == ((rd_T28 l1 x5_1).f1)) || (!(((rd_T28 l0 x5_1).f2) == ((rd_T28 l1 x5_1).f2)) || (!(((rd_T28 l0 x5_1).f3) == ((rd_T28 l1 x5_1).f3)) || (!(((rd_T28 l0 x5_1).f4) == ((rd_T28 l1 x5_1).f4))))))) = true := c7
        clear c7
        obtain rfl := Option.some.inj H
        have p333 : 0 ≤ (x5_1 : Int) := of_decide_eq_true (by first | (with_reducible assumption) | assumption)
        have q333 : x5_1 < (l0.length : Int) := of_decide_eq_true (by first | (with_reducible assumption) | assumption)
        obtain ⟨ad333, e333, hx333_0, hx333_1, hx333_2, hx333_3, hx333_4, hx333_5⟩ := at_T28 HR0.out x5_1 p333 q333
        cases e333
        replace p333 := eq_true p333
        replace q333 := eq_true q333
        have p334 : 0 ≤ (x5_1 : Int) := of_decide_eq_true (by first | (with_reducible assumption) | assumption)
        have q334 : x5_1 < (l1.length : Int) := of_decide_eq_true (by first | (with_reducible assumption) | assumption)
        obtain ⟨ad334, e334, hx334_0, hx334_1, hx334_2, hx334_3, hx334_4, hx334_5⟩ := at_T28 HR1.out x5_1 p334 q334
        cases e334
        replace p334 := eq_true p334
        replace q334 := eq_true q334
        go_wp2
        repeat (go_quiet (fail); try go_wp2)
        go_ret
        exact ⟨by first | rfl | (simp; done) | (simp [*]; done), by repeat (first | exact Drawn0.refl _ | apply Drawn0.step)⟩
       ·rw [if_neg c7] at H
        have c7b0 : ((!(((rd_T28 l0 x5_1).f0.f0) == ((rd_T28 l1 x5_1).f0.f0)) || (!(((rd_T28 l0 x5_1).f0.f1) == ((rd_T28 l1 x5_1).f0.f1)))) || (!(((rd_T28 l0 x5_1).f1) == ((rd_T28 l1 x5_1).f1)) || (!(((rd_T28 l0 x5_1).f2) == ((rd_T28 l1 x5_1).f2)) || (!(((rd_T28 l0 x5_1).f3) == ((rd_T28 l1 x5_1).f3)) || (!(((rd_T28 l0 x5_1).f4) == ((rd_T28 l1 x5_1).f4))))))) = false := by simpa using c7
        clear c7
        have H' := Aside0.mk H
        clear H
        have p333 : 0 ≤ (x5_1 : Int) := of_decide_eq_true (by first | (with_reducible assumption) | assumption)
        have q333 : x5_1 < (l0.length : Int) := of_decide_eq_true (by first | (with_reducible assumption) | assumption)
        obtain ⟨ad333, e333, hx333_0, hx333_1, hx333_2, hx333_3, hx333_4, hx333_5⟩ := at_T28 HR0.out x5_1 p333 q333
        cases e333
        replace p333 := eq_true p333
        replace q333 := eq_true q333
        have p334 : 0 ≤ (x5_1 : Int) := of_decide_eq_true (by first | (with_reducible assumption) | assumption)
        have q334 : x5_1 < (l1.length : Int) := of_decide_eq_true (by first | (with_reducible assumption) | assumption)
        obtain ⟨ad334, e334, hx334_0, hx334_1, hx334_2, hx334_3, hx334_4, hx334_5⟩ := at_T28 HR1.out x5_1 p334 q334
        cases e334
        replace p334 := eq_true p334
        replace q334 := eq_true q334
        go_wp2
        repeat (go_quiet (fail); try go_wp2)
        go_roundg k1
        case measure => have := HK1.out; omega
        case rel => exact ⟨(wrap64 (x5_1 + 1)), (by first | rfl | (simp; done) | (simp [*]; done)), H', ⟨by have := HK1.out; omega⟩, by repeat (first | exact Drawn0.refl _ | apply Drawn0.step)⟩
      ·rw [if_neg c6] at H
       exact absurd H (by simp)
     ·rw [if_neg c5] at H
      exact absurd H (by simp)
    ·rw [if_neg c4] at H
     have c4b0 : decide (x5_1 < (l0.length : Int)) = false := decide_eq_false c4
     clear c4
     obtain rfl := Option.some.inj H
     go_wp2
     repeat (go_quiet (fail); try go_wp2)
     go_ret
     exact ⟨by first | rfl | (simp; done) | (simp [*]; done), by repeat (first | exact Drawn0.refl _ | apply Drawn0.step)⟩
 ·rw [if_neg c3] at H
  have c3b0 : ((l0.length : Int) == (l1.length : Int)) = false := beq_eq_false_iff_ne.mpr c3
  have c3b1 : ((l0.length : Int) != (l1.length : Int)) = true := bne_iff_ne.mpr c3
  have c3b2 : (l0.length == l1.length) = false := by first | simpa using c3 | (simp at c3 ⊢; omega)
  obtain rfl := Option.some.inj H
  go_enter Try.func27, Try.ntmps27
  go_wp2
  repeat (go_quiet (fail); try go_wp2)
  go_ret
  exact ⟨by first | rfl | (simp; done) | (simp [*]; done), by repeat (first | exact Drawn0.refl _ | apply Drawn0.step)⟩

/-! ### watchmanref08_Same: function 25 -/
def watchmanref08_Same.f (k : Nat) (a0_0 : Int) (a0_1 : Int) (l0_2 : List (S28)) (a1_0 : Int) (a1_1 : Int) (l1_2 : List (S28)) : Option (Bool) := if a0_0 = a1_0 then (if a0_1 = a1_1 then ((watchmanref07_Same.f k l0_2 l1_2).bind fun t337 => (some t337)) else (some false)) else (some false)
theorem watchmanref08_Same.mono : ∀ a0 a1 a2 a3 a4 a5 k, LeO (watchmanref08_Same.f k a0 a1 a2 a3 a4 a5) (watchmanref08_Same.f (k + 1) a0 a1 a2 a3 a4 a5) := by
 intro a0 a1 a2 a3 a4 a5 k
 unfold watchmanref08_Same.f
 repeat' first
   | (with_reducible exact watchmanref07_Same.mono _ _ _)
   | (with_reducible exact LeO.refl _)
   | (with_reducible exact LeO.none _)
   | (with_reducible refine LeO.ite ?_ ?_)
   | (with_reducible refine LeO.bind ?_ (fun _ => ?_))
   | exact watchmanref07_Same.mono _ _ _
   | exact LeO.none _
   | refine LeO.ite ?_ ?_
   | refine LeO.bind ?_ (fun _ => ?_)
set_option maxHeartbeats 8000000 in
set_option maxRecDepth 100000 in
theorem watchmanref08_Same.calls (k : Nat) (a0_0 : Int) (a0_1 : Int) (A0_2 : Option Addr) (c0_2 : Nat) (l0_2 : List (S28)) (a1_0 : Int) (a1_1 : Int) (A1_2 : Option Addr) (c1_2 : Nat) (l1_2 : List (S28)) (r : Bool) (w : World) (hr0_2 : Kd.C k28 w A0_2 l0_2.length l0_2) (hc0_2 : l0_2.length ≤ c0_2) (hr1_2 : Kd.C k28 w A1_2 l1_2.length l1_2) (hc1_2 : l1_2.length ≤ c1_2) (h : watchmanref08_Same.f k a0_0 a0_1 l0_2 a1_0 a1_1 l1_2 = some r) :
  Calls Try.prog 25 #[.agg #[.int .i64 a0_0, .int .i64 a0_1, .slice A0_2 l0_2.length c0_2], .agg #[.int .i64 a1_0, .int .i64 a1_1, .slice A1_2 l1_2.length c1_2]] w fun e w' => e = .returned (.bool r) ∧ Below w.heap.size w w' := by
 have hu24 := Try.underlying24
 have HR0_2 := Aside0.mk hr0_2
 have HC0_2 := Aside0.mk hc0_2
 clear hr0_2 hc0_2
 have HR1_2 := Aside0.mk hr1_2
 have HC1_2 := Aside0.mk hc1_2
 clear hr1_2 hc1_2
 have HB := Aside0.mk (Below.refl w.heap.size w)
 have H : (if a0_0 = a1_0 then (if a0_1 = a1_1 then ((watchmanref07_Same.f k l0_2 l1_2).bind fun t337 => (some t337)) else (some false)) else (some false)) = some r := h
 clear h
 by_cases c3 : a0_0 = a1_0
 ·rw [if_pos c3] at H
  have c3b0 : (a0_0 == a1_0) = true := beq_iff_eq.mpr c3
  have c3b1 : (a0_0 != a1_0) = false := bne_eq_false_iff_eq.mpr c3
  clear c3
  by_cases c4 : a0_1 = a1_1
  ·rw [if_pos c4] at H
   have c4b0 : (a0_1 == a1_1) = true := beq_iff_eq.mpr c4
   have c4b1 : (a0_1 != a1_1) = false := bne_eq_false_iff_eq.mpr c4
   clear c4
   replace H := Option.bind_eq_some_iff.mp H
   obtain ⟨t337, A50, H⟩ := H
   try dsimp only at H
   have A5 := Aside0.mk A50
   clear A50
   obtain rfl := Option.some.inj H
   go_enter Try.func25, Try.ntmps25
   go_wp2_with (first | ((with_reducible refine gate_dst (N := 2) rfl ?_); refine box_event ?hg (N := 2) ?hd (cs := #[.int .i64 a0_0, .int .i64 a0_1, .slice A0_2 l0_2.length c0_2]) (t := 24) ?hr ?_; (case hd => rfl); (case hg => rfl); (case hr => first | (go_simp; done) | (go_simp; rfl)); intro gb335 hg w6 hbox hb; have BK335 := Aside0.mk (hbox); have GW335 := Aside0.mk ((by rw [hg]; exact (below_size HB.out) : w.heap.size ≤ gb335)); have GE335 := Aside0.mk ((by rw [hg]; exact (below_size HB.out) : w.heap.size ≤ gb335)); replace HB := Aside0.mk (below_step HB.out hb); clear hb hbox hg) | ((with_reducible refine gate_dst (N := 3) rfl ?_); refine box_event ?hg (N := 3) ?hd (cs := #[.int .i64 a1_0, .int .i64 a1_1, .slice A1_2 l1_2.length c1_2]) (t := 24) ?hr ?_; (case hd => rfl); (case hg => rfl); (case hr => first | (go_simp; done) | (go_simp; rfl)); intro gb336 hg w7 hbox hb; have BK336 := Aside0.mk (hbox); have GW336 := Aside0.mk ((by rw [hg]; exact (below_size (by repeat (with_reducible first | exact HB.out | apply pw_below_drewN | apply below_drew1 | refine below_set ?_ GE335.out))) : w.heap.size ≤ gb336)); have GE336 := Aside0.mk ((by rw [hg]; exact (below_size (by repeat (with_reducible first | exact HB.out | apply pw_below_drewN | apply below_drew1 | refine below_set ?_ GE335.out))) : w.heap.size ≤ gb336)); replace HB := Aside0.mk (below_step (by repeat (with_reducible first | exact HB.out | apply pw_below_drewN | apply below_drew1 | refine below_set ?_ GE335.out)) hb); have NB335_336 := Aside0.mk ((by rw [hg]; exact Nat.ne_of_lt (blk_lt BK335.out) : gb335 ≠ gb336)); have NB336_335 := Aside0.mk ((by rw [hg]; exact Nat.ne_of_gt (blk_lt BK335.out) : gb336 ≠ gb335)); replace BK335 := bl_ BK335 hb; clear hb hbox hg; have hnb8 := NB335_336.out; have hnc8 := NB336_335.out; have hcz9_0 : w7.cell? ⟨gb335, 0, none⟩ = some (.int .i64 a0_0) := (blk_cell BK335.out 0).trans rfl; have hcz9_1 : w7.cell? ⟨gb335, 1, none⟩ = some (.int .i64 a0_1) := (blk_cell BK335.out 1).trans rfl; have hcz9_2 : w7.cell? ⟨gb335, 2, none⟩ = some (.slice A0_2 l0_2.length c0_2) := (blk_cell BK335.out 2).trans rfl; have hfz9_0 := blk_frozen BK335.out 0; have hfz9_1 := blk_frozen BK335.out 1; have hfz9_2 := blk_frozen BK335.out 2; have hcz10_0 : w7.cell? ⟨gb336, 0, none⟩ = some (.int .i64 a1_0) := (blk_cell BK336.out 0).trans rfl; have hcz10_1 : w7.cell? ⟨gb336, 1, none⟩ = some (.int .i64 a1_1) := (blk_cell BK336.out 1).trans rfl; have hcz10_2 : w7.cell? ⟨gb336, 2, none⟩ = some (.slice A1_2 l1_2.length c1_2) := (blk_cell BK336.out 2).trans rfl; have hfz10_0 := blk_frozen BK336.out 0; have hfz10_1 := blk_frozen BK336.out 1; have hfz10_2 := blk_frozen BK336.out 2) | (go_at_call 27; (with_reducible refine (watchmanref07_Same.calls k _ _ l0_2 _ _ l1_2 t337 _ ?side1 ?side2 ?side3 ?side4 A5.out).mono ?_); (case side1 => exact (Kd.C_below HR0_2.out HB.out)); (case side2 => exact HC0_2.out); (case side3 => exact (Kd.C_below HR1_2.out HB.out)); (case side4 => exact HC1_2.out); rintro e w' ⟨rfl, ⟨nd, rfl⟩⟩))
   go_ret
   exact ⟨by first | rfl | (simp [errW_none, errW_some] <;> rfl) | (simp [*, errW_none, errW_some] <;> rfl), by repeat (with_reducible first | exact HB.out | apply pw_below_drewN | apply below_drew1 | refine below_set ?_ (Aside0.out (by assumption)))⟩
  ·rw [if_neg c4] at H
   have c4b0 : (a0_1 == a1_1) = false := beq_eq_false_iff_ne.mpr c4
   have c4b1 : (a0_1 != a1_1) = true := bne_iff_ne.mpr c4
   obtain rfl := Option.some.inj H
   go_enter Try.func25, Try.ntmps25
   go_wp2_with (first | ((with_reducible refine gate_dst (N := 2) rfl ?_); refine box_event ?hg (N := 2) ?hd (cs := #[.int .i64 a0_0, .int .i64 a0_1, .slice A0_2 l0_2.length c0_2]) (t := 24) ?hr ?_; (case hd => rfl); (case hg => rfl); (case hr => first | (go_simp; done) | (go_simp; rfl)); intro gb335 hg w11 hbox hb; have BK335 := Aside0.mk (hbox); have GW335 := Aside0.mk ((by rw [hg]; exact (below_size HB.out) : w.heap.size ≤ gb335)); have GE335 := Aside0.mk ((by rw [hg]; exact (below_size HB.out) : w.heap.size ≤ gb335)); replace HB := Aside0.mk (below_step HB.out hb); clear hb hbox hg) | ((with_reducible refine gate_dst (N := 3) rfl ?_); refine box_event ?hg (N := 3) ?hd (cs := #[.int .i64 a1_0, .int .i64 a1_1, .slice A1_2 l1_2.length c1_2]) (t := 24) ?hr ?_; (case hd => rfl); (case hg => rfl); (case hr => first | (go_simp; done) | (go_simp; rfl)); intro gb336 hg w12 hbox hb; have BK336 := Aside0.mk (hbox); have GW336 := Aside0.mk ((by rw [hg]; exact (below_size (by repeat (with_reducible first | exact HB.out | apply pw_below_drewN | apply below_drew1 | refine below_set ?_ GE335.out))) : w.heap.size ≤ gb336)); have GE336 := Aside0.mk ((by rw [hg]; exact (below_size (by repeat (with_reducible first | exact HB.out | apply pw_below_drewN | apply below_drew1 | refine below_set ?_ GE335.out))) : w.heap.size ≤ gb336)); replace HB := Aside0.mk (below_step (by repeat (with_reducible first | exact HB.out | apply pw_below_drewN | apply below_drew1 | refine below_set ?_ GE335.out)) hb); have NB335_336 := Aside0.mk ((by rw [hg]; exact Nat.ne_of_lt (blk_lt BK335.out) : gb335 ≠ gb336)); have NB336_335 := Aside0.mk ((by rw [hg]; exact Nat.ne_of_gt (blk_lt BK335.out) : gb336 ≠ gb335)); replace BK335 := bl_ BK335 hb; clear hb hbox hg; have hnb13 := NB335_336.out; have hnc13 := NB336_335.out; have hcz14_0 : w12.cell? ⟨gb335, 0, none⟩ = some (.int .i64 a0_0) := (blk_cell BK335.out 0).trans rfl; have hcz14_1 : w12.cell? ⟨gb335, 1, none⟩ = some (.int .i64 a0_1) := (blk_cell BK335.out 1).trans rfl; have hcz14_2 : w12.cell? ⟨gb335, 2, none⟩ = some (.slice A0_2 l0_2.length c0_2) := (blk_cell BK335.out 2).trans rfl; have hfz14_0 := blk_frozen BK335.out 0; have hfz14_1 := blk_frozen BK335.out 1; have hfz14_2 := blk_frozen BK335.out 2; have hcz15_0 : w12.cell? ⟨gb336, 0, none⟩ = some (.int .i64 a1_0) := (blk_cell BK336.out 0).trans rfl; have hcz15_1 : w12.cell? ⟨gb336, 1, none⟩ = some (.int .i64 a1_1) := (blk_cell BK336.out 1).trans rfl; have hcz15_2 : w12.cell? ⟨gb336, 2, none⟩ = some (.slice A1_2 l1_2.length c1_2) := (blk_cell BK336.out 2).trans rfl; have hfz15_0 := blk_frozen BK336.out 0; have hfz15_1 := blk_frozen BK336.out 1; have hfz15_2 := blk_frozen BK336.out 2))
   go_ret
   exact ⟨by first | rfl | (simp [errW_none, errW_some] <;> rfl) | (simp [*, errW_none, errW_some] <;> rfl), by repeat (with_reducible first | exact HB.out | apply pw_below_drewN | apply below_drew1 | refine below_set ?_ (Aside0.out (by assumption)))⟩
 ·rw [if_neg c3] at H
  have c3b0 : (a0_0 == a1_0) = false := beq_eq_false_iff_ne.mpr c3
  have c3b1 : (a0_0 != a1_0) = true := bne_iff_ne.mpr c3
  obtain rfl := Option.some.inj H
  go_enter Try.func25, Try.ntmps25
  go_wp2_with (first | ((with_reducible refine gate_dst (N := 2) rfl ?_); refine box_event ?hg (N := 2) ?hd (cs := #[.int .i64 a0_0, .int .i64 a0_1, .slice A0_2 l0_2.length c0_2]) (t := 24) ?hr ?_; (case hd => rfl); (case hg => rfl); (case hr => first | (go_simp; done) | (go_simp; rfl)); intro gb335 hg w16 hbox hb; have BK335 := Aside0.mk (hbox); have GW335 := Aside0.mk ((by rw [hg]; exact (below_size HB.out) : w.heap.size ≤ gb335)); have GE335 := Aside0.mk ((by rw [hg]; exact (below_size HB.out) : w.heap.size ≤ gb335)); replace HB := Aside0.mk (below_step HB.out hb); clear hb hbox hg) | ((with_reducible refine gate_dst (N := 3) rfl ?_); refine box_event ?hg (N := 3) ?hd (cs := #[.int .i64 a1_0, .int .i64 a1_1, .slice A1_2 l1_2.length c1_2]) (t := 24) ?hr ?_; (case hd => rfl); (case hg => rfl); (case hr => first | (go_simp; done) | (go_simp; rfl)); intro gb336 hg w17 hbox hb; have BK336 := Aside0.mk (hbox); have GW336 := Aside0.mk ((by rw [hg]; exact (below_size (by repeat (with_reducible first | exact HB.out | apply pw_below_drewN | apply below_drew1 | refine below_set ?_ GE335.out))) : w.heap.size ≤ gb336)); have GE336 := Aside0.mk ((by rw [hg]; exact (below_size (by repeat (with_reducible first | exact HB.out | apply pw_below_drewN | apply below_drew1 | refine below_set ?_ GE335.out))) : w.heap.size ≤ gb336)); replace HB := Aside0.mk (below_step (by repeat (with_reducible first | exact HB.out | apply pw_below_drewN | apply below_drew1 | refine below_set ?_ GE335.out)) hb); have NB335_336 := Aside0.mk ((by rw [hg]; exact Nat.ne_of_lt (blk_lt BK335.out) : gb335 ≠ gb336)); have NB336_335 := Aside0.mk ((by rw [hg]; exact Nat.ne_of_gt (blk_lt BK335.out) : gb336 ≠ gb335)); replace BK335 := bl_ BK335 hb; clear hb hbox hg; have hnb18 := NB335_336.out; have hnc18 := NB336_335.out; have hcz19_0 : w17.cell? ⟨gb335, 0, none⟩ = some (.int .i64 a0_0) := (blk_cell BK335.out 0).trans rfl; have hcz19_1 : w17.cell? ⟨gb335, 1, none⟩ = some (.int .i64 a0_1) := (blk_cell BK335.out 1).trans rfl; have hcz19_2 : w17.cell? ⟨gb335, 2, none⟩ = some (.slice A0_2 l0_2.length c0_2) := (blk_cell BK335.out 2).trans rfl; have hfz19_0 := blk_frozen BK335.out 0; have hfz19_1 := blk_frozen BK335.out 1; have hfz19_2 := blk_frozen BK335.out 2; have hcz20_0 : w17.cell? ⟨gb336, 0, none⟩ = some (.int .i64 a1_0) := (blk_cell BK336.out 0).trans rfl; have hcz20_1 : w17.cell? ⟨gb336, 1, none⟩ = some (.int .i64 a1_1) := (blk_cell BK336.out 1).trans rfl; have hcz20_2 : w17.cell? ⟨gb336, 2, none⟩ = some (.slice A1_2 l1_2.length c1_2) := (blk_cell BK336.out 2).trans rfl; have hfz20_0 := blk_frozen BK336.out 0; have hfz20_1 := blk_frozen BK336.out 1; have hfz20_2 := blk_frozen BK336.out 2))
  go_ret
  exact ⟨by first | rfl | (simp [errW_none, errW_some] <;> rfl) | (simp [*, errW_none, errW_some] <;> rfl), by repeat (with_reducible first | exact HB.out | apply pw_below_drewN | apply below_drew1 | refine below_set ?_ (Aside0.out (by assumption)))⟩

/-! ### slices_Index_int_int: function 89 -/
def slices_Index_int_int.l0 : Nat → List Int → Int → Int → Int → Option (Int)
 | 0, _, _, _, _ => none
 | k + 1, x0, x1, x7, x8 => if x8 < x7 then (if 0 ≤ x8 then (if x8 < (x0.length : Int) then (if x1 = (rd x0 x8) then (some x8) else (slices_Index_int_int.l0 k x0 x1 x7 (wrap64 (x8 + 1)))) else (none)) else (none)) else (some (-1))
def slices_Index_int_int.f (k : Nat) (l0 : List Int) (a1 : Int) : Option (Int) := slices_Index_int_int.l0 k l0 a1 (l0.length : Int) 0
theorem slices_Index_int_int.mono_l : ∀ k, (∀ y0 y1 y2 y3, LeO (slices_Index_int_int.l0 k y0 y1 y2 y3) (slices_Index_int_int.l0 (k + 1) y0 y1 y2 y3))
 | 0 => fun _ _ _ _ r h => by simp [slices_Index_int_int.l0] at h
 | k + 1 => by
  have ih0 := slices_Index_int_int.mono_l k
  ·intro y0 y1 y2 y3
   unfold slices_Index_int_int.l0
   repeat' first
   | (with_reducible exact ih0 _ _ _ _)
   | (with_reducible exact LeO.refl _)
   | (with_reducible exact LeO.none _)
   | (with_reducible refine LeO.ite ?_ ?_)
   | (with_reducible refine LeO.bind ?_ (fun _ => ?_))
   | exact ih0 _ _ _ _
   | exact LeO.none _
   | refine LeO.ite ?_ ?_
   | refine LeO.bind ?_ (fun _ => ?_)
theorem slices_Index_int_int.mono : ∀ a0 a1 k, LeO (slices_Index_int_int.f k a0 a1) (slices_Index_int_int.f (k + 1) a0 a1) := by
 intro a0 a1 k
 have ih0 := slices_Index_int_int.mono_l k
 unfold slices_Index_int_int.f
 repeat' first
   | (with_reducible exact ih0 _ _ _ _)
   | (with_reducible exact LeO.refl _)
   | (with_reducible exact LeO.none _)
   | (with_reducible refine LeO.ite ?_ ?_)
   | (with_reducible refine LeO.bind ?_ (fun _ => ?_))
   | exact ih0 _ _ _ _
   | exact LeO.none _
   | refine LeO.ite ?_ ?_
   | refine LeO.bind ?_ (fun _ => ?_)
set_option maxHeartbeats 8000000 in
set_option maxRecDepth 100000 in
theorem slices_Index_int_int.calls (k : Nat) (A0 : Option Addr) (c0 : Nat) (l0 : List Int) (a1 : Int) (r : Int) (w : World) (hr0 : Kd.C (Kd.int .i64) w A0 l0.length l0) (hc0 : l0.length ≤ c0) (h : slices_Index_int_int.f k l0 a1 = some r) :
  Calls Try.prog 89 #[.slice A0 l0.length c0, .int .i64 a1] w fun e w' => e = .returned (.int .i64 r) ∧ Drawn0 w w' := by
 have HR0 := Aside0.mk hr0
 have HC0 := Aside0.mk hc0
 clear hr0 hc0
 have H : (slices_Index_int_int.l0 k l0 a1 (l0.length : Int) 0) = some r := h
 clear h
 have H' := Aside0.mk H
 clear H
 go_enter Try.func89, Try.ntmps89
 go_wp2
 go_loopg [8] k (fun kq v8 w' => ∃ (x8_1 : Int), v8 = .int .i64 x8_1 ∧ Aside0 (slices_Index_int_int.l0 kq l0 a1 (l0.length : Int) x8_1 = some r) ∧ Aside0 (kq ≤ k) ∧ Drawn0 w w')
 case atStart => exact ⟨(0), (by first | rfl | (simp; done) | (simp [*]; done)), H', ⟨Nat.le_refl _⟩, by repeat (first | exact Drawn0.refl _ | apply Drawn0.step)⟩
 case round =>
  clear H'
  try clear p2
  obtain ⟨x8_1, rfl, HA, HK1, ⟨m1, rfl⟩⟩ := hrel
  cases gk with
  | zero => exact absurd HA.out (by simp [slices_Index_int_int.l0])
  | succ k1 =>
   have H := HA.out
   clear HA
   simp only [slices_Index_int_int.l0] at H
   by_cases c3 : x8_1 < (l0.length : Int)
   ·rw [if_pos c3] at H
    have c3b0 : decide (x8_1 < (l0.length : Int)) = true := decide_eq_true c3
    clear c3
    by_cases c4 : 0 ≤ x8_1
    ·rw [if_pos c4] at H
     have c4b0 : decide (0 ≤ x8_1) = true := decide_eq_true c4
     clear c4
     by_cases c5 : x8_1 < (l0.length : Int)
     ·rw [if_pos c5] at H
      have c5b0 : decide (x8_1 < (l0.length : Int)) = true := decide_eq_true c5
      clear c5
      by_cases c6 : a1 = (rd l0 x8_1)
      ·rw [if_pos c6] at H
       have c6b0 : (a1 == (rd l0 x8_1)) = true := beq_iff_eq.mpr c6
       have c6b1 : (a1 != (rd l0 x8_1)) = false := bne_eq_false_iff_eq.mpr c6
       clear c6
       obtain rfl := Option.some.inj H
       have p338 : 0 ≤ (x8_1 : Int) := of_decide_eq_true (by first | (with_reducible assumption) | assumption)
       have q338 : x8_1 < (l0.length : Int) := of_decide_eq_true (by first | (with_reducible assumption) | assumption)
       obtain ⟨ad338, e338, hx338_0⟩ := Kd.at_int HR0.out x8_1 p338 q338
       cases e338
       replace p338 := eq_true p338
       replace q338 := eq_true q338
       go_wp2
       go_ret
       exact ⟨by first | rfl | (simp; done) | (simp [*]; done), by repeat (first | exact Drawn0.refl _ | apply Drawn0.step)⟩
      ·rw [if_neg c6] at H
       have c6b0 : (a1 == (rd l0 x8_1)) = false := beq_eq_false_iff_ne.mpr c6
       have c6b1 : (a1 != (rd l0 x8_1)) = true := bne_iff_ne.mpr c6
       have H' := Aside0.mk H
       clear H
       have p338 : 0 ≤ (x8_1 : Int) := of_decide_eq_true (by first | (with_reducible assumption) | assumption)
       have q338 : x8_1 < (l0.length : Int) := of_decide_eq_true (by first | (with_reducible assumption) | assumption)
       obtain ⟨ad338, e338, hx338_0⟩ := Kd.at_int HR0.out x8_1 p338 q338
       cases e338
       replace p338 := eq_true p338
       replace q338 := eq_true q338
       go_wp2
       go_roundg k1
       case measure => have := HK1.out; omega
       case rel => exact ⟨(wrap64 (x8_1 + 1)), (by first | rfl | (simp; done) | (simp [*]; done)), H', ⟨by have := HK1.out; omega⟩, by repeat (first | exact Drawn0.refl _ | apply Drawn0.step)⟩
     ·rw [if_neg c5] at H
      exact absurd H (by simp)
    ·rw [if_neg c4] at H
     exact absurd H (by simp)
   ·rw [if_neg c3] at H
    have c3b0 : decide (x8_1 < (l0.length : Int)) = false := decide_eq_false c3
    clear c3
    obtain rfl := Option.some.inj H
    go_wp2
    go_ret
    exact ⟨by first | rfl | (simp; done) | (simp [*]; done), by repeat (first | exact Drawn0.refl _ | apply Drawn0.step)⟩

/-! ### slices_Contains_int_int: function 63 -/
def slices_Contains_int_int.f (k : Nat) (l0 : List Int) (a1 : Int) : Option (Bool) := (slices_Index_int_int.f k l0 a1).bind fun t339 => (some (decide (t339 ≥ 0)))
theorem slices_Contains_int_int.mono : ∀ a0 a1 k, LeO (slices_Contains_int_int.f k a0 a1) (slices_Contains_int_int.f (k + 1) a0 a1) := by
 intro a0 a1 k
 unfold slices_Contains_int_int.f
 repeat' first
   | (with_reducible exact slices_Index_int_int.mono _ _ _)
   | (with_reducible exact LeO.refl _)
   | (with_reducible exact LeO.none _)
   | (with_reducible refine LeO.ite ?_ ?_)
   | (with_reducible refine LeO.bind ?_ (fun _ => ?_))
   | exact slices_Index_int_int.mono _ _ _
   | exact LeO.none _
   | refine LeO.ite ?_ ?_
   | refine LeO.bind ?_ (fun _ => ?_)
set_option maxHeartbeats 8000000 in
set_option maxRecDepth 100000 in
theorem slices_Contains_int_int.calls (k : Nat) (A0 : Option Addr) (c0 : Nat) (l0 : List Int) (a1 : Int) (r : Bool) (w : World) (hr0 : Kd.C (Kd.int .i64) w A0 l0.length l0) (hc0 : l0.length ≤ c0) (h : slices_Contains_int_int.f k l0 a1 = some r) :
  Calls Try.prog 63 #[.slice A0 l0.length c0, .int .i64 a1] w fun e w' => e = .returned (.bool r) ∧ Drawn0 w w' := by
 have HR0 := Aside0.mk hr0
 have HC0 := Aside0.mk hc0
 clear hr0 hc0
 have H : ((slices_Index_int_int.f k l0 a1).bind fun t339 => (some (decide (t339 ≥ 0)))) = some r := h
 clear h
 replace H := Option.bind_eq_some_iff.mp H
 obtain ⟨t339, A30, H⟩ := H
 try dsimp only at H
 have A3 := Aside0.mk A30
 clear A30
 obtain rfl := Option.some.inj H
 go_enter Try.func63, Try.ntmps63
 go_wp2_with (first | ((with_reducible refine gate_callee (f := 89) rfl ?_); refine goesL_ (some 7) rfl rfl Try.func89 (by kernel_rfl) rfl #[.slice A0 l0.length c0, .int .i64 a1] rfl (by (try simp only [List.map_toArray, List.map_cons, List.map_nil]); first | done | rfl | (simp only [List.length_drop, List.length_take]; rfl)) ?_; (with_reducible refine (slices_Index_int_int.calls k _ _ l0 a1 t339 _ ?side1 ?side2 A3.out).mono ?_); (case side1 => repeat (first | exact HR0.out | (with_reducible refine Kd.C_alloc ?_ _) | (with_reducible refine Kd.C_drewN ?_ _) | (with_reducible refine Kd.C_drew ?_))); (case side2 => exact HC0.out); rintro e w' ⟨rfl, ⟨nd, rfl⟩⟩; refine ⟨_, rfl, ?_⟩))
 go_ret
 exact ⟨by first | rfl | (simp; done) | (simp [*]; done), by repeat (first | exact Drawn0.refl _ | apply Drawn0.step)⟩

/-! ### api_Alarm_61: function 61 -/
def api_Alarm_61.f (l0 : List S28) : Option (List S28) := if l0.length < 2199023255552 then some l0 else none
set_option maxHeartbeats 8000000 in
set_option maxRecDepth 100000 in
theorem api_Alarm_61.calls (A0 : Option Addr) (c0 : Nat) (l0 : List S28) (r : List S28) (w : World) (hr0 : Kd.C k28 w A0 l0.length l0) (hc0 : l0.length ≤ c0) (h : api_Alarm_61.f l0 = some r) :
    Calls Try.prog 61 #[.slice A0 l0.length c0] w fun e w' => ∃ v0_ : Value, e = .returned (v0_) ∧ Kd.R k28 28 w' w.heap.size (fun _ => True) v0_ r ∧ Below w.heap.size w w' := by
  have q : ∀ (w : World) (a : Option Addr) (n c n' c' : Nat), (binOp .eql 22 (.slice a n c) (.slice none n' c')).run Try.prog w = .ok (.bool a.isNone) w := fun w a n c n' c' => Lib.run_eql_slice_nil w _ _ a n c n' c' Try.underlying22
  unfold api_Alarm_61.f at h
  by_cases c2 : l0.length < 2199023255552
  · rw [if_pos c2] at h
    obtain rfl := Option.some.inj h
    have LM := Aside0.mk c2
    clear h c2
    have HR0 := Aside0.mk hr0
    clear hr0 hc0
    cases A0 with
    | none =>
      go_enter Try.func61, Try.ntmps61
      go_wp2
      go_ret
      have e : l0 = [] := by
        rcases Nat.eq_zero_or_pos l0.length with h0 | h0
        · exact List.eq_nil_of_length_eq_zero h0
        · obtain ⟨ad, h, _⟩ := HR0.out.2.2 h0
          cases h
      subst e
      exact ⟨_, rfl, Kd.R_nil _ _ _ _ _, Below.refl _ _⟩
    | some ad =>
      go_enter Try.func61, Try.ntmps61
      go_wp2_with ((with_reducible refine gate_builtin (b := .append) (xs := #[.tmp 5, .tmp 6]) rfl ?_); at_builtin; refine Kd.R_append_rows k28 (w0 := w) w.heap.size rfl (.tmp 5) (.tmp 6) 22 28 (.agg #[.int .i64 0, .int .i64 0, .int .i64 0, .int .i64 0, .int .i64 0, .int .i64 0]) 48 rfl Try.underlying22 info28 rfl (by decide) (by omega) (.slice (some ⟨w.heap.size, 0, none⟩) 0 0) ([] : List S28) l0 _ _ _ (fun _ => True) (fun _ => False) rfl rfl ?aO ?aR (fun _ _ h => h) (fun _ h => h.elim) ?aF ?aB ?aS ?aL ?_; (case aR => exact Kd.C_alloc HR0.out _); (case aB => exact below_alloc (Below.refl _ _) _); (case aF => exact (fun _ _ => trivial)); (case aO => exact ⟨fun _ _ => trivial, [], World.ownsRow_made w #[] 0 (Nat.le_refl _) (Nat.zero_le _) rfl, ⟨rfl, fun j p hj => by simp at hj⟩⟩); (case aS => simp); (case aL => have := LM.out; simp; omega); intro v157 w3 ho hb hg hat; rw [List.nil_append] at ho; have HB := Aside0.mk (hb); have HO := Aside0.mk (ho); clear ho hb hg hat)
      go_ret
      exact ⟨_, rfl, HO.out, HB.out⟩
  · rw [if_neg c2] at h
    exact absurd h (by simp)

end Go.Proofs.Ytcfpbmdndapeaaa.F
