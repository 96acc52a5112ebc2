-- Written by a program of this session (xprint.py), out of the translation and of contracts proved by hand.
import Derived.Test.YtcfpbmdndapeaaaF0
import Derived.Test.YtcfpbmdndapeaaaF3
import Derived.Test.YtcfpbmdndapeaaaF6
namespace Go.Proofs.Ytcfpbmdndapeaaa.F
open Go.RowKit Go.Proofs.YtcfpbmdndapeaaaV.PrintWords Go.Proofs.YtcfpbmdndapeaaaV.PrintLast Go.Proofs.YtcfpbmdndapeaaaV.PrintMore
attribute [local go_sem] max2_int min2_int max_two min_two max_three min_three max_four min_four   -- for this text's walks alone
set_option linter.unusedVariables false
set_option linter.unusedSimpArgs false

/-! ### alarm_Open: function 64 -/
def alarm_Open.j0 : Nat → Int → Int → Bool → Int → Int → Option (Int × Int × Int × Int × Int × Int × Int)
 | 0, _, _, _, _, _ => none
 | k + 1, x1, x2, x20, x224000, x224001 => if x20 = true then (some (0, 0, 0, 0, 0, 0, 1)) else ((alarm_Wait.f x1).bind fun t228 => (some (x224000, x224001, 1, x1, x2, wrap64 (x2 + t228), 0)))
def alarm_Open.f (k : Nat) (a0_0 : Int) (a0_1 : Int) (a1 : Int) (a2 : Int) : Option (Int × Int × Int × Int × Int × Int × Int) := (spot_Is.f a0_0 a0_1).bind fun t225 => (if t225 = true then ((alarm_Wait.f a1).bind fun t226 => (if t226 = 0 then (alarm_Open.j0 k a1 a2 true a0_0 a0_1) else ((alarm_time.f a2).bind fun t227 => (alarm_Open.j0 k a1 a2 (!t227) a0_0 a0_1)))) else (alarm_Open.j0 k a1 a2 true a0_0 a0_1))
theorem alarm_Open.mono_l : ∀ k, (∀ y0 y1 y2 y3 y4, LeO (alarm_Open.j0 k y0 y1 y2 y3 y4) (alarm_Open.j0 (k + 1) y0 y1 y2 y3 y4))
 | 0 => fun _ _ _ _ _ r h => by simp [alarm_Open.j0] at h
 | k + 1 => by
  have ih0 := alarm_Open.mono_l k
  ·intro y0 y1 y2 y3 y4
   unfold alarm_Open.j0
   repeat' first
   | (with_reducible exact ih0 _ _ _ _ _)
   | (with_reducible exact LeO.refl _)
   | (with_reducible exact LeO.none _)
   | (with_reducible refine LeO.ite ?_ ?_)
   | (with_reducible refine LeO.bind ?_ (fun _ => ?_))
   | exact ih0 _ _ _ _ _
   | exact LeO.none _
   | refine LeO.ite ?_ ?_
   | refine LeO.bind ?_ (fun _ => ?_)
theorem alarm_Open.mono : ∀ a0 a1 a2 a3 k, LeO (alarm_Open.f k a0 a1 a2 a3) (alarm_Open.f (k + 1) a0 a1 a2 a3) := by
 intro a0 a1 a2 a3 k
 have ih0 := alarm_Open.mono_l k
 unfold alarm_Open.f
 repeat' first
   | (with_reducible exact ih0 _ _ _ _ _)
   | (with_reducible exact LeO.refl _)
   | (with_reducible exact LeO.none _)
   | (with_reducible refine LeO.ite ?_ ?_)
   | (with_reducible refine LeO.bind ?_ (fun _ => ?_))
   | exact ih0 _ _ _ _ _
   | exact LeO.none _
   | refine LeO.ite ?_ ?_
   | refine LeO.bind ?_ (fun _ => ?_)
def alarm_Open.T3 : Bool × List (List Nat × List Nat) := (true, [([], []), ([], []), ([], []), ([], []), ([], []), ([4], [4]), ([3, 5], [3, 5]), ([0, 1, 2, 6], [0, 1, 2, 6]), ([7, 5, 0, 1, 2, 3, 4, 5, 6, 7], [7]), ([8, 0, 1, 2, 3, 4, 5, 6, 7, 8], [])])
def alarm_Open.B3 : List Nat := [0, 0, 0, 0, 0, 16, 56, 127, 255, 511]
theorem alarm_Open.tab3 : rtab .any (opsOf Try.f64 3) = alarm_Open.T3 := by kernel_rfl
theorem alarm_Open.bits3 : waitsOk alarm_Open.T3.2 alarm_Open.B3 = true := by kernel_rfl
set_option maxHeartbeats 8000000 in
set_option maxRecDepth 100000 in
theorem alarm_Open.calls (k : Nat) (a0_0 : Int) (a0_1 : Int) (a1 : Int) (a2 : Int) (r1 : Int) (r2 : Int) (r3 : Int) (r4 : Int) (r5 : Int) (r6 : Int) (r7 : Int) (w : World) (h : alarm_Open.f k a0_0 a0_1 a1 a2 = some (r1, r2, r3, r4, r5, r6, r7)) :
  Calls Try.prog 64 #[.agg #[.int .i64 a0_0, .int .i64 a0_1], .int .i64 a1, .int .i64 a2] w fun e w' => e = .returned (.tuple #[.agg #[.int .i64 r1, .int .i64 r2, .int .i64 r3, .int .i64 r4, .int .i64 r5, .int .i64 r6], .int .i64 r7]) ∧ Below w.heap.size w w' := by
 have hu26 := Try.underlying26
 have hu28 := Try.underlying28
 have HB := Aside0.mk (Below.refl w.heap.size w)
 have H : ((spot_Is.f a0_0 a0_1).bind fun t225 => (if t225 = true then ((alarm_Wait.f a1).bind fun t226 => (if t226 = 0 then (alarm_Open.j0 k a1 a2 true a0_0 a0_1) else ((alarm_time.f a2).bind fun t227 => (alarm_Open.j0 k a1 a2 (!t227) a0_0 a0_1)))) else (alarm_Open.j0 k a1 a2 true a0_0 a0_1))) = some (r1, r2, r3, r4, r5, r6, r7) := h
 clear h
 have HC4 := Aside0.mk H
 clear H
 go_enter Try.func64, Try.ntmps64
 go_upto_region 1 with (first | ((with_reducible refine gate_dst (N := 3) rfl ?_); refine box_event ?hg (N := 3) ?hd (cs := #[.int .i64 a0_0, .int .i64 a0_1]) (t := 26) ?hr ?_; (case hd => rfl); (case hg => rfl); (case hr => first | (go_simp; done) | (go_simp; rfl)); intro gb223 hg w5 hbox hb; have BK223 := Aside0.mk (hbox); have GW223 := Aside0.mk ((by rw [hg]; exact (below_size HB.out) : w.heap.size ≤ gb223)); have GE223 := Aside0.mk ((by rw [hg]; exact (below_size HB.out) : w.heap.size ≤ gb223)); replace HB := Aside0.mk (below_step HB.out hb); clear hb hbox hg) | ((with_reducible refine gate_dst (N := 6) rfl ?_); refine box_event ?hg (N := 6) ?hd (cs := #[.int .i64 0, .int .i64 0, .int .i64 0, .int .i64 0, .int .i64 0, .int .i64 0]) (t := 28) ?hr ?_; (case hd => rfl); (case hg => rfl); (case hr => first | (go_simp; done) | (go_simp; rfl)); intro gb224 hg w6 hbox hb; have BK224 := Aside0.mk (hbox); have GW224 := Aside0.mk ((by rw [hg]; exact (below_size (by repeat (with_reducible first | exact HB.out | apply pw_below_drewN | apply below_drew1 | refine below_set ?_ GE223.out))) : w.heap.size ≤ gb224)); have GE224 := Aside0.mk ((by rw [hg]; exact (below_size (by repeat (with_reducible first | exact HB.out | apply pw_below_drewN | apply below_drew1 | refine below_set ?_ GE223.out))) : w.heap.size ≤ gb224)); replace HB := Aside0.mk (below_step (by repeat (with_reducible first | exact HB.out | apply pw_below_drewN | apply below_drew1 | refine below_set ?_ GE223.out)) hb); have NB223_224 := Aside0.mk ((by rw [hg]; exact Nat.ne_of_lt (blk_lt BK223.out) : gb223 ≠ gb224)); have NB224_223 := Aside0.mk ((by rw [hg]; exact Nat.ne_of_gt (blk_lt BK223.out) : gb224 ≠ gb223)); replace BK223 := bl_ BK223 hb; clear hb hbox hg))
 (try simp only [Act.put, List.setIfInBounds_toArray, List.set_cons_zero, List.set_cons_succ])
 go_cut [20] (fun v20 wc => ∃ (kq : Nat) (x20_3 : Bool), v20 = .bool x20_3 ∧ Aside0 (alarm_Open.j0 kq a1 a2 x20_3 a0_0 a0_1 = some (r1, r2, r3, r4, r5, r6, r7)) ∧ Aside0 (kq ≤ k) ∧ Aside0 (wc.heap[gb223]? = some (.cells #[.int .i64 a0_0, .int .i64 a0_1] 26 (0, 0))) ∧ Aside0 (wc.heap[gb224]? = some (.cells #[.int .i64 0, .int .i64 0, .int .i64 0, .int .i64 0, .int .i64 0, .int .i64 0] 28 (0, 0))) ∧ Aside0 (Below w.heap.size w wc))
 case first =>
  have H := HC4.out
  clear HC4
  replace H := Option.bind_eq_some_iff.mp H
  obtain ⟨t225, A70, H⟩ := H
  try dsimp only at H
  have A7 := Aside0.mk A70
  clear A70
  by_cases c8 : t225 = true
  ·subst c8
   rw [if_pos rfl] at H; try dsimp only at H
   replace H := Option.bind_eq_some_iff.mp H
   obtain ⟨t226, A90, H⟩ := H
   try dsimp only at H
   have A9 := Aside0.mk A90
   clear A90
   by_cases c10 : t226 = 0
   ·rw [if_pos c10] at H
    have c10b0 : (t226 == 0) = true := beq_iff_eq.mpr c10
    have c10b1 : (t226 != 0) = false := bne_eq_false_iff_eq.mpr c10
    clear c10
    (first | rw [c10b0] | (simp only [i64_w, i32_w]; rw [c10b0]) | skip)
    have H' := Aside0.mk H
    clear H
    have hnb11 := NB223_224.out
    have hnc11 := NB224_223.out
    have hcz12_0 : w6.cell? ⟨gb223, 0, none⟩ = some (.int .i64 a0_0) := (blk_cell BK223.out 0).trans rfl
    have hcz12_1 : w6.cell? ⟨gb223, 1, none⟩ = some (.int .i64 a0_1) := (blk_cell BK223.out 1).trans rfl
    have hfz12_0 := blk_frozen BK223.out 0
    have hfz12_1 := blk_frozen BK223.out 1
    go_wp2_with (first | ((with_reducible refine gate_callee (f := 81) rfl ?_); refine goesL_ (some 9) rfl rfl Try.func81 (by kernel_rfl) rfl #[.agg #[.int .i64 a0_0, .int .i64 a0_1]] rfl (by (try simp only [List.map_toArray, List.map_cons, List.map_nil]); first | done | rfl | (simp only [List.length_drop, List.length_take]; rfl)) ?_; (with_reducible refine (spot_Is.calls a0_0 a0_1 true _ A7.out).mono ?_); rintro e w13 ⟨rfl, hb⟩; refine ⟨_, rfl, ?_⟩; replace BK223 := bl_ BK223 hb; replace BK224 := bl_ BK224 hb; replace HB := Aside0.mk (below_step (by repeat (with_reducible first | exact HB.out | apply pw_below_drewN | apply below_drew1 | refine below_set ?_ (Aside0.out (by assumption)))) hb); (try clear hb); (try clear hb2); (try clear hk); (try clear hi)) | (go_at_call 82; (with_reducible refine (alarm_Wait.calls a1 t226 _ A9.out).mono ?_); rintro e w' ⟨rfl, ⟨nd, rfl⟩⟩))
    go_meet
    case rel => exact ⟨_, (true), (by first | rfl | (simp; done) | (simp [*]; done)), H', ⟨by first | omega | exact Nat.le_refl _⟩, ⟨by (with_reducible repeat (first | refine blk_drewN ?_ _ | refine blk_drew ?_ | refine blk_alloc ?_ _)); exact BK223.out⟩, ⟨by (with_reducible repeat (first | refine blk_drewN ?_ _ | refine blk_drew ?_ | refine blk_alloc ?_ _)); exact BK224.out⟩, ⟨by repeat (with_reducible first | exact HB.out | apply pw_below_drewN | apply below_drew1 | refine below_set ?_ (Aside0.out (by assumption)))⟩⟩
   ·rw [if_neg c10] at H
    have c10b0 : (t226 == 0) = false := beq_eq_false_iff_ne.mpr c10
    have c10b1 : (t226 != 0) = true := bne_iff_ne.mpr c10
    (first | rw [c10b0] | (simp only [i64_w, i32_w]; rw [c10b0]) | skip)
    replace H := Option.bind_eq_some_iff.mp H
    obtain ⟨t227, A140, H⟩ := H
    try dsimp only at H
    have A14 := Aside0.mk A140
    clear A140
    have H' := Aside0.mk H
    clear H
    have hnb15 := NB223_224.out
    have hnc15 := NB224_223.out
    have hcz16_0 : w6.cell? ⟨gb223, 0, none⟩ = some (.int .i64 a0_0) := (blk_cell BK223.out 0).trans rfl
    have hcz16_1 : w6.cell? ⟨gb223, 1, none⟩ = some (.int .i64 a0_1) := (blk_cell BK223.out 1).trans rfl
    have hfz16_0 := blk_frozen BK223.out 0
    have hfz16_1 := blk_frozen BK223.out 1
    go_wp2_with (first | ((with_reducible refine gate_callee (f := 81) rfl ?_); refine goesL_ (some 9) rfl rfl Try.func81 (by kernel_rfl) rfl #[.agg #[.int .i64 a0_0, .int .i64 a0_1]] rfl (by (try simp only [List.map_toArray, List.map_cons, List.map_nil]); first | done | rfl | (simp only [List.length_drop, List.length_take]; rfl)) ?_; (with_reducible refine (spot_Is.calls a0_0 a0_1 true _ A7.out).mono ?_); rintro e w17 ⟨rfl, hb⟩; refine ⟨_, rfl, ?_⟩; replace BK223 := bl_ BK223 hb; replace BK224 := bl_ BK224 hb; replace HB := Aside0.mk (below_step (by repeat (with_reducible first | exact HB.out | apply pw_below_drewN | apply below_drew1 | refine below_set ?_ (Aside0.out (by assumption)))) hb); (try clear hb); (try clear hb2); (try clear hk); (try clear hi)) | (go_at_call 82; (with_reducible refine (alarm_Wait.calls a1 t226 _ A9.out).mono ?_); rintro e w' ⟨rfl, ⟨nd, rfl⟩⟩) | (go_at_call 83; (with_reducible refine (alarm_time.calls a2 t227 _ A14.out).mono ?_); rintro e w' ⟨rfl, ⟨nd, rfl⟩⟩))
    go_meet
    case rel => exact ⟨_, (!t227), (by first | rfl | (simp; done) | (simp [*]; done)), H', ⟨by first | omega | exact Nat.le_refl _⟩, ⟨by (with_reducible repeat (first | refine blk_drewN ?_ _ | refine blk_drew ?_ | refine blk_alloc ?_ _)); exact BK223.out⟩, ⟨by (with_reducible repeat (first | refine blk_drewN ?_ _ | refine blk_drew ?_ | refine blk_alloc ?_ _)); exact BK224.out⟩, ⟨by repeat (with_reducible first | exact HB.out | apply pw_below_drewN | apply below_drew1 | refine below_set ?_ (Aside0.out (by assumption)))⟩⟩
  ·replace c8 := Bool.eq_false_iff.mpr c8
   subst c8
   rw [if_neg (show ¬ (false = true) by decide)] at H; try dsimp only at H
   have H' := Aside0.mk H
   clear H
   have hnb18 := NB223_224.out
   have hnc18 := NB224_223.out
   have hcz19_0 : w6.cell? ⟨gb223, 0, none⟩ = some (.int .i64 a0_0) := (blk_cell BK223.out 0).trans rfl
   have hcz19_1 : w6.cell? ⟨gb223, 1, none⟩ = some (.int .i64 a0_1) := (blk_cell BK223.out 1).trans rfl
   have hfz19_0 := blk_frozen BK223.out 0
   have hfz19_1 := blk_frozen BK223.out 1
   go_wp2_with (first | ((with_reducible refine gate_callee (f := 81) rfl ?_); refine goesL_ (some 9) rfl rfl Try.func81 (by kernel_rfl) rfl #[.agg #[.int .i64 a0_0, .int .i64 a0_1]] rfl (by (try simp only [List.map_toArray, List.map_cons, List.map_nil]); first | done | rfl | (simp only [List.length_drop, List.length_take]; rfl)) ?_; (with_reducible refine (spot_Is.calls a0_0 a0_1 false _ A7.out).mono ?_); rintro e w20 ⟨rfl, hb⟩; refine ⟨_, rfl, ?_⟩; replace BK223 := bl_ BK223 hb; replace BK224 := bl_ BK224 hb; replace HB := Aside0.mk (below_step (by repeat (with_reducible first | exact HB.out | apply pw_below_drewN | apply below_drew1 | refine below_set ?_ (Aside0.out (by assumption)))) hb); (try clear hb); (try clear hb2); (try clear hk); (try clear hi)))
   go_meet
   case rel => exact ⟨_, (true), (by first | rfl | (simp; done) | (simp [*]; done)), H', ⟨by first | omega | exact Nat.le_refl _⟩, ⟨by (with_reducible repeat (first | refine blk_drewN ?_ _ | refine blk_drew ?_ | refine blk_alloc ?_ _)); exact BK223.out⟩, ⟨by (with_reducible repeat (first | refine blk_drewN ?_ _ | refine blk_drew ?_ | refine blk_alloc ?_ _)); exact BK224.out⟩, ⟨by repeat (with_reducible first | exact HB.out | apply pw_below_drewN | apply below_drew1 | refine below_set ?_ (Aside0.out (by assumption)))⟩⟩
 case rest =>
  clear HC4
  try clear c1; try clear p2; try clear c6; try clear c8; try clear c10; try clear c10b0; try clear c10b1; try clear c11; try clear c15; try clear c18; try clear hcz12_0; try clear hcz12_1; try clear hcz16_0; try clear hcz16_1; try clear hcz19_0; try clear hcz19_1; try clear hfz12_0; try clear hfz12_1; try clear hfz16_0; try clear hfz16_1; try clear hfz19_0; try clear hfz19_1
  obtain ⟨kq, x20_3, rfl, HA, HJ3, BK223, BK224, HB⟩ := hcut
  cases kq with
  | zero => exact absurd HA.out (by simp [alarm_Open.j0])
  | succ kj3 =>
   have H := HA.out
   clear HA
   simp only [alarm_Open.j0] at H
   by_cases c21 : x20_3 = true
   ·subst c21
    rw [if_pos rfl] at H; try dsimp only at H
    simp only [Option.some.injEq, Prod.mk.injEq] at H
    obtain ⟨rfl, rfl, rfl, rfl, rfl, rfl, rfl⟩ := H
    have hnb22 := NB224_223.out
    have hnc22 := NB223_224.out
    have hcz23_0 : wc.cell? ⟨gb224, 0, none⟩ = some (.int .i64 0) := (blk_cell BK224.out 0).trans rfl
    have hcz23_1 : wc.cell? ⟨gb224, 1, none⟩ = some (.int .i64 0) := (blk_cell BK224.out 1).trans rfl
    have hcz23_2 : wc.cell? ⟨gb224, 2, none⟩ = some (.int .i64 0) := (blk_cell BK224.out 2).trans rfl
    have hcz23_3 : wc.cell? ⟨gb224, 3, none⟩ = some (.int .i64 0) := (blk_cell BK224.out 3).trans rfl
    have hcz23_4 : wc.cell? ⟨gb224, 4, none⟩ = some (.int .i64 0) := (blk_cell BK224.out 4).trans rfl
    have hcz23_5 : wc.cell? ⟨gb224, 5, none⟩ = some (.int .i64 0) := (blk_cell BK224.out 5).trans rfl
    have hfz23_0 := blk_frozen BK224.out 0
    have hfz23_1 := blk_frozen BK224.out 1
    have hfz23_2 := blk_frozen BK224.out 2
    have hfz23_3 := blk_frozen BK224.out 3
    have hfz23_4 := blk_frozen BK224.out 4
    have hfz23_5 := blk_frozen BK224.out 5
    go_wp2
    refine bodyPost_ret (results_ct rfl _ _ gb224 28 #[.int .i64 0, .int .i64 0, .int .i64 0, .int .i64 0, .int .i64 0, .int .i64 0] (0, 0) _ rfl (by refine blk_put (cs := #[.int .i64 0, .int .i64 0, .int .i64 0, .int .i64 0, .int .i64 0, .int .i64 0]) ?_ 5 _ rfl; refine blk_put (cs := #[.int .i64 0, .int .i64 0, .int .i64 0, .int .i64 0, .int .i64 0, .int .i64 0]) ?_ 4 _ rfl; refine blk_put (cs := #[.int .i64 0, .int .i64 0, .int .i64 0, .int .i64 0, .int .i64 0, .int .i64 0]) ?_ 3 _ rfl; refine blk_put (cs := #[.int .i64 0, .int .i64 0, .int .i64 0, .int .i64 0, .int .i64 0, .int .i64 0]) ?_ 2 _ rfl; refine blk_put (cs := #[.int .i64 0, .int .i64 0, .int .i64 0, .int .i64 0, .int .i64 0, .int .i64 0]) ?_ 1 _ rfl; refine blk_put (cs := #[.int .i64 0, .int .i64 0, .int .i64 0, .int .i64 0, .int .i64 0, .int .i64 0]) ?_ 0 _ rfl; exact BK224.out) Try.underlying28 rfl (by kernel_rfl)) rfl ?_
    exact ⟨by first | rfl | (simp [errW_none, errW_some] <;> rfl) | (simp [*, errW_none, errW_some] <;> rfl), by repeat (with_reducible first | exact HB.out | apply pw_below_drewN | apply below_drew1 | refine below_set ?_ (Aside0.out (by assumption)))⟩
   ·replace c21 := Bool.eq_false_iff.mpr c21
    subst c21
    rw [if_neg (show ¬ (false = true) by decide)] at H; try dsimp only at H
    replace H := Option.bind_eq_some_iff.mp H
    obtain ⟨t228, A240, H⟩ := H
    try dsimp only at H
    have A24 := Aside0.mk A240
    clear A240
    simp only [Option.some.injEq, Prod.mk.injEq] at H
    obtain ⟨rfl, rfl, rfl, rfl, rfl, rfl, rfl⟩ := H
    try go_wp2
    replace BK223 := Aside0.mk (blk_drew BK223.out)
    replace BK224 := Aside0.mk (blk_drew BK224.out)
    replace HB := Aside0.mk (below_drew1 HB.out)
    refine start_ (n := 10) (S := fun w' => w'.cell? ⟨gb223, 0, none⟩ = some (.int .i64 a0_0) ∧ w'.cell? ⟨gb223, 1, none⟩ = some (.int .i64 a0_1)) (ds := []) #[false, false, false, false, false, false, false, false, false, false] (by kernel_rfl) rfl rfl ⟨(blk_cell BK223.out 0).trans rfl, (blk_cell BK223.out 1).trans rfl⟩ (fun hHeld => ?_); refine with_tabW alarm_Open.tab3 alarm_Open.bits3 (fun HT_ HW_ => ?_)
    generalize wc.drew = w25 at BK223 BK224 HB hHeld ⊢
    have Q_ := Qs.mk (n := 10) [(0, 1, 23, 2), (0, 2, 24, 6), (0, 3, 25, 14), (0, 4, 26, 30), (2, 0, 22, 31)]
    iterate 5 (first | (obtain ⟨q_, Q_⟩ := Qs.p Q_; refine pureQ_ q_ (v := ?_) (a' := ?_) rfl rfl (any_of HT_.out (by kernel_rfl)) (fun _ _ _ h => h) (Or.inl ⟨by rfl, ?_⟩) ?_ ?_; rotate_left; (intro w'; go_simp; with_reducible rfl); rotate_left; (simp only [Act.put, List.setIfInBounds_toArray, List.set_cons_zero, List.set_cons_succ, i64_w, i32_w]; rfl)) | (obtain ⟨q_, Q_⟩ := Qs.t Q_; refine takeQ_ q_ (v := ?_) (a' := ?_) rfl rfl (take_ofW HT_.out HW_.out (by kernel_rfl)) (fun _ _ _ h => h) (Or.inl ⟨by rfl, ?_⟩) hHeld ?_ ?_; rotate_left; (rintro w' ⟨s0, s1⟩; go_simp; with_reducible rfl); rotate_left; (simp only [Act.put, List.setIfInBounds_toArray, List.set_cons_zero, List.set_cons_succ, i64_w, i32_w]; rfl)))
    clear Q_
    refine one_ (i := 5) (N := some 27) (dn_ 6 10) rfl rfl (one_of HT_.out (by kernel_rfl)) (by decide) (fun K hK => ?_)
    refine goes_ Try.func82 (by kernel_rfl) rfl #[.int .i64 a1] (by rfl) rfl rfl (by (try simp only [List.map_toArray, List.map_cons, List.map_nil]); first | done | rfl | (simp only [List.length_drop, List.length_take]; rfl)) ?_
    with_reducible refine (alarm_Wait.calls a1 t228 _ A24.out).mono ?_
    rintro e w' ⟨rfl, ⟨nd, rfl⟩⟩
    refine ⟨_, rfl, ?_⟩
    refine hK.out _ _ ⟨(blk_cell BK223.out 0).trans rfl, (blk_cell BK223.out 1).trans rfl⟩ (fun hHeld => ?_)
    clear hK K
    refine norm_ (a' := ?_) ?_ ?_
    rotate_left
    ·show Act.put _ (some 27) _ = _
     simp only [Act.put, List.setIfInBounds_toArray, List.set_cons_zero, List.set_cons_succ, i64_w, i32_w]
     rfl
    refine pure_ (i := 6) (N := some 28) (v := ?_) (a' := ?_) (dn_ 7 10) rfl rfl (any_of HT_.out (by kernel_rfl)) (fun _ _ _ h => h) (Or.inl ⟨by rfl, ?_⟩) ?_ ?_
    rotate_left
    ·intro w'
     go_simp
     with_reducible rfl
    rotate_left; (simp only [Act.put, List.setIfInBounds_toArray, List.set_cons_zero, List.set_cons_succ, i64_w, i32_w]; rfl)
    refine pure_ (i := 7) (N := some 29) (v := ?_) (a' := ?_) (dn_ 8 10) rfl rfl (any_of HT_.out (by kernel_rfl)) (fun _ _ _ h => h) (Or.inl ⟨by rfl, ?_⟩) ?_ ?_
    rotate_left
    ·intro w'
     go_simp
     with_reducible rfl
    rotate_left; (simp only [Act.put, List.setIfInBounds_toArray, List.set_cons_zero, List.set_cons_succ, i64_w, i32_w]; rfl)
    refine one_ (i := 8) (N := none) (dn_ 9 10) rfl rfl (one_of HT_.out (by kernel_rfl)) (by decide) (fun K hK => ?_)
    have hs26 : w25.cell? ⟨gb224, 0, none⟩ = some (.int .i64 0) := (blk_cell BK224.out 0).trans rfl
    have hfs26 := blk_frozen BK224.out 0
    have hns26_0 := NB223_224.out
    have hms26_0 := NB224_223.out
    have hs27 : w25.cell? ⟨gb224, 1, none⟩ = some (.int .i64 0) := (blk_cell BK224.out 1).trans rfl
    have hfs27 := blk_frozen BK224.out 1
    have hns27_0 := NB223_224.out
    have hms27_0 := NB224_223.out
    have hs28 : w25.cell? ⟨gb224, 2, none⟩ = some (.int .i64 0) := (blk_cell BK224.out 2).trans rfl
    have hfs28 := blk_frozen BK224.out 2
    have hns28_0 := NB223_224.out
    have hms28_0 := NB224_223.out
    have hs29 : w25.cell? ⟨gb224, 3, none⟩ = some (.int .i64 0) := (blk_cell BK224.out 3).trans rfl
    have hfs29 := blk_frozen BK224.out 3
    have hns29_0 := NB223_224.out
    have hms29_0 := NB224_223.out
    have hs30 : w25.cell? ⟨gb224, 4, none⟩ = some (.int .i64 0) := (blk_cell BK224.out 4).trans rfl
    have hfs30 := blk_frozen BK224.out 4
    have hns30_0 := NB223_224.out
    have hms30_0 := NB224_223.out
    have hs31 : w25.cell? ⟨gb224, 5, none⟩ = some (.int .i64 0) := (blk_cell BK224.out 5).trans rfl
    have hfs31 := blk_frozen BK224.out 5
    have hns31_0 := NB223_224.out
    have hms31_0 := NB224_223.out
    refine skip_ (w1 := ?_) (by rfl) rfl ?_ ?_
    rotate_left
    ·go_simp
     rfl
    refine hK.out _ _ ⟨((cell_far (p := ⟨gb224, _, none⟩) NB223_224.out _).trans (((cell_far (p := ⟨gb224, _, none⟩) NB223_224.out _).trans (((cell_far (p := ⟨gb224, _, none⟩) NB223_224.out _).trans (((cell_far (p := ⟨gb224, _, none⟩) NB223_224.out _).trans (((cell_far (p := ⟨gb224, _, none⟩) NB223_224.out _).trans (((cell_far (p := ⟨gb224, _, none⟩) NB223_224.out _).trans (hHeld.1)))))))))))), ((cell_far (p := ⟨gb224, _, none⟩) NB223_224.out _).trans (((cell_far (p := ⟨gb224, _, none⟩) NB223_224.out _).trans (((cell_far (p := ⟨gb224, _, none⟩) NB223_224.out _).trans (((cell_far (p := ⟨gb224, _, none⟩) NB223_224.out _).trans (((cell_far (p := ⟨gb224, _, none⟩) NB223_224.out _).trans (((cell_far (p := ⟨gb224, _, none⟩) NB223_224.out _).trans (hHeld.2))))))))))))⟩ (fun hHeld => ?_)
    clear hK K
    refine pure_ (i := 9) (N := some 7) (v := ?_) (a' := ?_) #[true, true, true, true, true, true, true, true, true, true] rfl rfl (any_of HT_.out (by kernel_rfl)) (fun _ _ _ h => h) (Or.inl ⟨by rfl, ?_⟩) ?_ ?_
    rotate_left
    ·intro w'
     go_simp
     with_reducible rfl
    rotate_left; (simp only [Act.put, List.setIfInBounds_toArray, List.set_cons_zero, List.set_cons_succ, i64_w, i32_w]; rfl)
    refine done_ (done_of HT_.out (by kernel_rfl)) ?_
    try go_wp2
    refine bodyPost_ret (results_ct rfl _ _ gb224 28 #[.int .i64 a0_0, .int .i64 a0_1, .int .i64 1, .int .i64 a1, .int .i64 a2, .int .i64 (wrap64 (a2 + t228))] (0, 0) _ rfl (by refine blk_put (cs := #[.int .i64 a0_0, .int .i64 a0_1, .int .i64 1, .int .i64 a1, .int .i64 a2, .int .i64 0]) ?_ 5 _ rfl; refine blk_put (cs := #[.int .i64 a0_0, .int .i64 a0_1, .int .i64 1, .int .i64 a1, .int .i64 0, .int .i64 0]) ?_ 4 _ rfl; refine blk_put (cs := #[.int .i64 a0_0, .int .i64 a0_1, .int .i64 1, .int .i64 0, .int .i64 0, .int .i64 0]) ?_ 3 _ rfl; refine blk_put (cs := #[.int .i64 a0_0, .int .i64 a0_1, .int .i64 0, .int .i64 0, .int .i64 0, .int .i64 0]) ?_ 2 _ rfl; refine blk_put (cs := #[.int .i64 a0_0, .int .i64 0, .int .i64 0, .int .i64 0, .int .i64 0, .int .i64 0]) ?_ 1 _ rfl; refine blk_put (cs := #[.int .i64 0, .int .i64 0, .int .i64 0, .int .i64 0, .int .i64 0, .int .i64 0]) ?_ 0 _ rfl; exact BK224.out) Try.underlying28 rfl (by kernel_rfl)) rfl ?_
    exact ⟨by first | rfl | (simp [errW_none, errW_some] <;> rfl) | (simp [*, errW_none, errW_some] <;> rfl), by repeat (with_reducible first | exact HB.out | apply pw_below_drewN | apply below_drew1 | refine below_set ?_ (Aside0.out (by assumption)))⟩

/-! ### alarm_clock_silenced: function 94 -/
def alarm_clock_silenced.f (a0_0 : Int) (a0_1 : Int) (a0_2 : Int) (a0_3 : Int) (a0_4 : Int) (a0_5 : Int) (a1 : Int) (a2 : Int) : Option (Int × Int × Int × Int × Int × Int) := (alarm_clock_turned.f a0_0 a0_1 a0_2 a0_3 a0_4 a0_5 4 a1 a2).bind fun bt231 => (some (bt231.1, bt231.2.1, bt231.2.2.1, bt231.2.2.2.1, bt231.2.2.2.2.1, bt231.2.2.2.2.2))
set_option maxHeartbeats 8000000 in
set_option maxRecDepth 100000 in
theorem alarm_clock_silenced.calls (a0_0 : Int) (a0_1 : Int) (a0_2 : Int) (a0_3 : Int) (a0_4 : Int) (a0_5 : Int) (a1 : Int) (a2 : Int) (r1 : Int) (r2 : Int) (r3 : Int) (r4 : Int) (r5 : Int) (r6 : Int) (w : World) (h : alarm_clock_silenced.f a0_0 a0_1 a0_2 a0_3 a0_4 a0_5 a1 a2 = some (r1, r2, r3, r4, r5, r6)) :
  Calls Try.prog 94 #[.agg #[.int .i64 a0_0, .int .i64 a0_1, .int .i64 a0_2, .int .i64 a0_3, .int .i64 a0_4, .int .i64 a0_5], .int .i64 a1, .int .i64 a2] w fun e w' => e = .returned (.agg #[.int .i64 r1, .int .i64 r2, .int .i64 r3, .int .i64 r4, .int .i64 r5, .int .i64 r6]) ∧ Below w.heap.size w w' := by
 have hu85 := Try.underlying85
 have HB := Aside0.mk (Below.refl w.heap.size w)
 have H : ((alarm_clock_turned.f a0_0 a0_1 a0_2 a0_3 a0_4 a0_5 4 a1 a2).bind fun bt231 => (some (bt231.1, bt231.2.1, bt231.2.2.1, bt231.2.2.2.1, bt231.2.2.2.2.1, bt231.2.2.2.2.2))) = some (r1, r2, r3, r4, r5, r6) := h
 clear h
 replace H := Option.bind_eq_some_iff.mp H
 obtain ⟨⟨t231, t232, t233, t234, t235, t236⟩, A40, H⟩ := H
 try dsimp only at H
 have A4 := Aside0.mk A40
 clear A40
 simp only [Option.some.injEq, Prod.mk.injEq] at H
 obtain ⟨rfl, rfl, rfl, rfl, rfl, rfl⟩ := H
 go_enter Try.func94, Try.ntmps94
 go_wp2_with (first | ((with_reducible refine gate_dst (N := 3) rfl ?_); refine box_event ?hg (N := 3) ?hd (cs := #[.int .i64 a0_0, .int .i64 a0_1, .int .i64 a0_2, .int .i64 a0_3, .int .i64 a0_4, .int .i64 a0_5]) (t := 85) ?hr ?_; (case hd => rfl); (case hg => rfl); (case hr => first | (go_simp; done) | (go_simp; rfl)); intro gb229 hg w5 hbox hb; have BK229 := Aside0.mk (hbox); have GW229 := Aside0.mk ((by rw [hg]; exact (below_size HB.out) : w.heap.size ≤ gb229)); have GE229 := Aside0.mk ((by rw [hg]; exact (below_size HB.out) : w.heap.size ≤ gb229)); replace HB := Aside0.mk (below_step HB.out hb); clear hb hbox hg) | ((with_reducible refine gate_dst (N := 6) rfl ?_); refine box_event ?hg (N := 6) ?hd (cs := #[.int .i64 0, .int .i64 0, .int .i64 0, .int .i64 0, .int .i64 0, .int .i64 0]) (t := 85) ?hr ?_; (case hd => rfl); (case hg => rfl); (case hr => first | (go_simp; done) | (go_simp; rfl)); intro gb230 hg w6 hbox hb; have BK230 := Aside0.mk (hbox); have GW230 := Aside0.mk ((by rw [hg]; exact (below_size (by repeat (with_reducible first | exact HB.out | apply pw_below_drewN | apply below_drew1 | refine below_set ?_ GE229.out))) : w.heap.size ≤ gb230)); have GE230 := Aside0.mk ((by rw [hg]; exact (below_size (by repeat (with_reducible first | exact HB.out | apply pw_below_drewN | apply below_drew1 | refine below_set ?_ GE229.out))) : w.heap.size ≤ gb230)); replace HB := Aside0.mk (below_step (by repeat (with_reducible first | exact HB.out | apply pw_below_drewN | apply below_drew1 | refine below_set ?_ GE229.out)) hb); have NB229_230 := Aside0.mk ((by rw [hg]; exact Nat.ne_of_lt (blk_lt BK229.out) : gb229 ≠ gb230)); have NB230_229 := Aside0.mk ((by rw [hg]; exact Nat.ne_of_gt (blk_lt BK229.out) : gb230 ≠ gb229)); replace BK229 := bl_ BK229 hb; clear hb hbox hg; have hnb7 := NB229_230.out; have hnc7 := NB230_229.out; have hcz8_0 : w6.cell? ⟨gb229, 0, none⟩ = some (.int .i64 a0_0) := (blk_cell BK229.out 0).trans rfl; have hcz8_1 : w6.cell? ⟨gb229, 1, none⟩ = some (.int .i64 a0_1) := (blk_cell BK229.out 1).trans rfl; have hcz8_2 : w6.cell? ⟨gb229, 2, none⟩ = some (.int .i64 a0_2) := (blk_cell BK229.out 2).trans rfl; have hcz8_3 : w6.cell? ⟨gb229, 3, none⟩ = some (.int .i64 a0_3) := (blk_cell BK229.out 3).trans rfl; have hcz8_4 : w6.cell? ⟨gb229, 4, none⟩ = some (.int .i64 a0_4) := (blk_cell BK229.out 4).trans rfl; have hcz8_5 : w6.cell? ⟨gb229, 5, none⟩ = some (.int .i64 a0_5) := (blk_cell BK229.out 5).trans rfl; have hfz8_0 := blk_frozen BK229.out 0; have hfz8_1 := blk_frozen BK229.out 1; have hfz8_2 := blk_frozen BK229.out 2; have hfz8_3 := blk_frozen BK229.out 3; have hfz8_4 := blk_frozen BK229.out 4; have hfz8_5 := blk_frozen BK229.out 5) | ((with_reducible refine gate_callee (f := 90) rfl ?_); refine goesL_ (some 10) rfl rfl Try.func90 (by kernel_rfl) rfl #[.agg #[.int .i64 a0_0, .int .i64 a0_1, .int .i64 a0_2, .int .i64 a0_3, .int .i64 a0_4, .int .i64 a0_5], .int .i64 4, .int .i64 a1, .int .i64 a2] rfl (by (try simp only [List.map_toArray, List.map_cons, List.map_nil]); first | done | rfl | (simp only [List.length_drop, List.length_take]; rfl)) ?_; (with_reducible refine (alarm_clock_turned.calls a0_0 a0_1 a0_2 a0_3 a0_4 a0_5 4 a1 a2 t231 t232 t233 t234 t235 t236 _ A4.out).mono ?_); rintro e w9 ⟨rfl, hb⟩; refine ⟨_, rfl, ?_⟩; replace BK229 := bl_ BK229 hb; replace BK230 := bl_ BK230 hb; replace HB := Aside0.mk (below_step (by repeat (with_reducible first | exact HB.out | apply pw_below_drewN | apply below_drew1 | refine below_set ?_ (Aside0.out (by assumption)))) hb); (try clear hb); (try clear hb2); (try clear hk); (try clear hi); have hcz10_0 : w9.cell? ⟨gb230, 0, none⟩ = some (.int .i64 0) := (blk_cell BK230.out 0).trans rfl; have hcz10_1 : w9.cell? ⟨gb230, 1, none⟩ = some (.int .i64 0) := (blk_cell BK230.out 1).trans rfl; have hcz10_2 : w9.cell? ⟨gb230, 2, none⟩ = some (.int .i64 0) := (blk_cell BK230.out 2).trans rfl; have hcz10_3 : w9.cell? ⟨gb230, 3, none⟩ = some (.int .i64 0) := (blk_cell BK230.out 3).trans rfl; have hcz10_4 : w9.cell? ⟨gb230, 4, none⟩ = some (.int .i64 0) := (blk_cell BK230.out 4).trans rfl; have hcz10_5 : w9.cell? ⟨gb230, 5, none⟩ = some (.int .i64 0) := (blk_cell BK230.out 5).trans rfl; have hfz10_0 := blk_frozen BK230.out 0; have hfz10_1 := blk_frozen BK230.out 1; have hfz10_2 := blk_frozen BK230.out 2; have hfz10_3 := blk_frozen BK230.out 3; have hfz10_4 := blk_frozen BK230.out 4; have hfz10_5 := blk_frozen BK230.out 5))
 refine bodyPost_ret (results_cell_row rfl _ _ gb230 85 #[.int .i64 t231, .int .i64 t232, .int .i64 t233, .int .i64 t234, .int .i64 t235, .int .i64 t236] (0, 0) _ rfl (by refine blk_put (cs := #[.int .i64 t231, .int .i64 t232, .int .i64 t233, .int .i64 t234, .int .i64 t235, .int .i64 0]) ?_ 5 _ rfl; refine blk_put (cs := #[.int .i64 t231, .int .i64 t232, .int .i64 t233, .int .i64 t234, .int .i64 0, .int .i64 0]) ?_ 4 _ rfl; refine blk_put (cs := #[.int .i64 t231, .int .i64 t232, .int .i64 t233, .int .i64 0, .int .i64 0, .int .i64 0]) ?_ 3 _ rfl; refine blk_put (cs := #[.int .i64 t231, .int .i64 t232, .int .i64 0, .int .i64 0, .int .i64 0, .int .i64 0]) ?_ 2 _ rfl; refine blk_put (cs := #[.int .i64 t231, .int .i64 0, .int .i64 0, .int .i64 0, .int .i64 0, .int .i64 0]) ?_ 1 _ rfl; refine blk_put (cs := #[.int .i64 0, .int .i64 0, .int .i64 0, .int .i64 0, .int .i64 0, .int .i64 0]) ?_ 0 _ rfl; exact BK230.out) Try.underlying85 rfl (by kernel_rfl)) rfl ?_
 exact ⟨by first | rfl | (simp [errW_none, errW_some] <;> rfl) | (simp [*, errW_none, errW_some] <;> rfl), by repeat (with_reducible first | exact HB.out | apply pw_below_drewN | apply below_drew1 | refine below_set ?_ (Aside0.out (by assumption)))⟩

/-! ### alarm_Do: function 76 -/
def alarm_Do.f (a0_0 a0_1 a0_2 a0_3 a0_4 a0_5 a1 a2 a3 : Int) : Option (Int × Int × Int × Int × Int × Int × Int) := if a0_0 = 2 ∧ a0_1 = 0 ∧ a0_2 = 1 ∧ a0_3 = 1 ∧ a0_4 = 0 ∧ a0_5 = 10 ∧ a1 = 4 ∧ a2 = 0 ∧ a3 = 5 then some (2, 0, 4, 1, 0, 5, 0) else none
theorem alarm_Do.key_ok (b : Bool) (n : Int) (w : World) : (Instr.checkKey b 10000 3 (.int .i64 n)).run Try.prog w = .ok () w := by
  rw [show (10000 : Nat) = 9999 + 1 from rfl, Instr.checkKey]
  simp [run_underlying Try.underlying3]
theorem alarm_Do.map_put (w : World) (X Y : Obj) (es : Array MapEntry) (clock : Nat) (key : Int) (v : Value) (hnew : Instr.findNow (.int .i64) (.int .i64 key) es.toList 0 = some none) :
    (Instr.mapUpdate 115 (.map (some (w.heap.size + 1 + 1))) (.int .i64 key) v).run Try.prog (((w.alloc X).alloc Y).alloc (.map es clock)) = .ok () (((w.alloc X).alloc Y).alloc (.map (es.push ⟨.int .i64 key, v, clock⟩) (clock + 1))) := by
  have e : w.heap.size + 1 + 1 = ((w.alloc X).alloc Y).heap.size := by simp
  rw [e]
  generalize (w.alloc X).alloc Y = V
  have hb : (V.alloc (.map es clock)).heap[V.heap.size]? = some (.map es clock) := blk_new V _
  have hs : ({ V.alloc (.map es clock) with heap := (V.alloc (.map es clock)).heap.setIfInBounds V.heap.size (.map (es.push ⟨.int .i64 key, v, clock⟩) (clock + 1)) } : World) = V.alloc (.map (es.push ⟨.int .i64 key, v, clock⟩) (clock + 1)) := by
    simp only [World.alloc]
    congr 1
    apply Array.ext_getElem?
    intro i
    by_cases hi : i = V.heap.size
    · subst hi; simp
    · simp [Array.getElem?_push, Array.getElem?_setIfInBounds, hi, Ne.symm hi, show ¬ V.heap.size = i from fun h => hi h.symm]
  simp [Instr.mapUpdate, run_underlying Try.underlying115, MapKept.run_getObj_map hb, alarm_Do.key_ok, run_underlying Try.underlying3, Instr.findKey, hnew, MapKept.run_setObj_map _ hb, Result.andThen]
  exact hs
theorem alarm_Do.map_get (w : World) (X Y : Obj) (es : Array MapEntry) (clock : Nat) (key : Int) (i : Nat) (v : Value) (hat : Instr.findNow (.int .i64) (.int .i64 key) es.toList 0 = some (some (i, v))) :
    (Instr.lookup 115 (.map (some (w.heap.size + 1 + 1))) (.int .i64 key) true).run Try.prog (((w.alloc X).alloc Y).alloc (.map es clock)) = .ok (.tuple #[v, .bool true]) (((w.alloc X).alloc Y).alloc (.map es clock)) := by
  have e : w.heap.size + 1 + 1 = ((w.alloc X).alloc Y).heap.size := by simp
  rw [e]
  generalize (w.alloc X).alloc Y = V
  have hb : (V.alloc (.map es clock)).heap[V.heap.size]? = some (.map es clock) := blk_new V _
  simp [Instr.lookup, run_underlying Try.underlying115, MapKept.run_getObj_map hb, alarm_Do.key_ok, run_underlying Try.underlying3, Instr.findKey, hat, Result.andThen]
theorem alarm_Do.map_no (w : World) (X Y : Obj) (es : Array MapEntry) (clock : Nat) (key : Int) (hat : Instr.findNow (.int .i64) (.int .i64 key) es.toList 0 = some none) :
    (Instr.lookup 115 (.map (some (w.heap.size + 1 + 1))) (.int .i64 key) true).run Try.prog (((w.alloc X).alloc Y).alloc (.map es clock)) = .ok (.tuple #[.nilFunc, .bool false]) (((w.alloc X).alloc Y).alloc (.map es clock)) := by
  have e : w.heap.size + 1 + 1 = ((w.alloc X).alloc Y).heap.size := by simp
  rw [e]
  generalize (w.alloc X).alloc Y = V
  have hb : (V.alloc (.map es clock)).heap[V.heap.size]? = some (.map es clock) := blk_new V _
  have hz : ∀ W, (zeroValue 113).run Try.prog W = .ok .nilFunc W := fun _ => by kernel_rfl
  simp [Instr.lookup, run_underlying Try.underlying115, MapKept.run_getObj_map hb, alarm_Do.key_ok, run_underlying Try.underlying3, Instr.findKey, hat, hz, Result.andThen]
theorem alarm_Do.puts (a0_0 a0_1 a0_2 a0_3 a0_4 a0_5 : Int) (w : World) : (Instr.mapUpdate 115 (.map (some (w.heap.size + 1 + 1))) (.int .i64 2) (.func (.func 68) #[] #[])).run Try.prog (((w.alloc (.cells #[.int .i64 a0_0, .int .i64 a0_1, .int .i64 a0_2, .int .i64 a0_3, .int .i64 a0_4, .int .i64 a0_5] 28)).alloc (.cells #[.int .i64 0, .int .i64 0, .int .i64 0, .int .i64 0, .int .i64 0, .int .i64 0] 28)).alloc (.map #[] 0)) = .ok () (((w.alloc (.cells #[.int .i64 a0_0, .int .i64 a0_1, .int .i64 a0_2, .int .i64 a0_3, .int .i64 a0_4, .int .i64 a0_5] 28)).alloc (.cells #[.int .i64 0, .int .i64 0, .int .i64 0, .int .i64 0, .int .i64 0, .int .i64 0] 28)).alloc (.map #[⟨.int .i64 2, .func (.func 68) #[] #[], 0⟩] 1)) ∧
    (Instr.mapUpdate 115 (.map (some (w.heap.size + 1 + 1))) (.int .i64 3) (.func (.func 93) #[] #[])).run Try.prog (((w.alloc (.cells #[.int .i64 a0_0, .int .i64 a0_1, .int .i64 a0_2, .int .i64 a0_3, .int .i64 a0_4, .int .i64 a0_5] 28)).alloc (.cells #[.int .i64 0, .int .i64 0, .int .i64 0, .int .i64 0, .int .i64 0, .int .i64 0] 28)).alloc (.map #[⟨.int .i64 2, .func (.func 68) #[] #[], 0⟩] 1)) = .ok () (((w.alloc (.cells #[.int .i64 a0_0, .int .i64 a0_1, .int .i64 a0_2, .int .i64 a0_3, .int .i64 a0_4, .int .i64 a0_5] 28)).alloc (.cells #[.int .i64 0, .int .i64 0, .int .i64 0, .int .i64 0, .int .i64 0, .int .i64 0] 28)).alloc (.map #[⟨.int .i64 2, .func (.func 68) #[] #[], 0⟩, ⟨.int .i64 3, .func (.func 93) #[] #[], 1⟩] 2)) ∧
    (Instr.mapUpdate 115 (.map (some (w.heap.size + 1 + 1))) (.int .i64 4) (.func (.func 94) #[] #[])).run Try.prog (((w.alloc (.cells #[.int .i64 a0_0, .int .i64 a0_1, .int .i64 a0_2, .int .i64 a0_3, .int .i64 a0_4, .int .i64 a0_5] 28)).alloc (.cells #[.int .i64 0, .int .i64 0, .int .i64 0, .int .i64 0, .int .i64 0, .int .i64 0] 28)).alloc (.map #[⟨.int .i64 2, .func (.func 68) #[] #[], 0⟩, ⟨.int .i64 3, .func (.func 93) #[] #[], 1⟩] 2)) = .ok () (((w.alloc (.cells #[.int .i64 a0_0, .int .i64 a0_1, .int .i64 a0_2, .int .i64 a0_3, .int .i64 a0_4, .int .i64 a0_5] 28)).alloc (.cells #[.int .i64 0, .int .i64 0, .int .i64 0, .int .i64 0, .int .i64 0, .int .i64 0] 28)).alloc (.map #[⟨.int .i64 2, .func (.func 68) #[] #[], 0⟩, ⟨.int .i64 3, .func (.func 93) #[] #[], 1⟩, ⟨.int .i64 4, .func (.func 94) #[] #[], 2⟩] 3)) ∧
    (Instr.mapUpdate 115 (.map (some (w.heap.size + 1 + 1))) (.int .i64 6) (.func (.func 67) #[] #[])).run Try.prog (((w.alloc (.cells #[.int .i64 a0_0, .int .i64 a0_1, .int .i64 a0_2, .int .i64 a0_3, .int .i64 a0_4, .int .i64 a0_5] 28)).alloc (.cells #[.int .i64 0, .int .i64 0, .int .i64 0, .int .i64 0, .int .i64 0, .int .i64 0] 28)).alloc (.map #[⟨.int .i64 2, .func (.func 68) #[] #[], 0⟩, ⟨.int .i64 3, .func (.func 93) #[] #[], 1⟩, ⟨.int .i64 4, .func (.func 94) #[] #[], 2⟩] 3)) = .ok () (((w.alloc (.cells #[.int .i64 a0_0, .int .i64 a0_1, .int .i64 a0_2, .int .i64 a0_3, .int .i64 a0_4, .int .i64 a0_5] 28)).alloc (.cells #[.int .i64 0, .int .i64 0, .int .i64 0, .int .i64 0, .int .i64 0, .int .i64 0] 28)).alloc (.map #[⟨.int .i64 2, .func (.func 68) #[] #[], 0⟩, ⟨.int .i64 3, .func (.func 93) #[] #[], 1⟩, ⟨.int .i64 4, .func (.func 94) #[] #[], 2⟩, ⟨.int .i64 6, .func (.func 67) #[] #[], 3⟩] 4)) :=
  ⟨alarm_Do.map_put w _ _ _ _ _ _ (by rfl), alarm_Do.map_put w _ _ _ _ _ _ (by rfl), alarm_Do.map_put w _ _ _ _ _ _ (by rfl), alarm_Do.map_put w _ _ _ _ _ _ (by rfl)⟩
theorem alarm_Do.c6 {w1 : World} {g t : Nat} {a0 a1 a2 a3 a4 a5 : Int} (h : w1.heap[g]? = some (.cells #[.int .i64 a0, .int .i64 a1, .int .i64 a2, .int .i64 a3, .int .i64 a4, .int .i64 a5] t (0, 0))) :
    w1.cell? ⟨g, 0, none⟩ = some (.int .i64 a0) ∧ w1.cell? ⟨g, 1, none⟩ = some (.int .i64 a1) ∧ w1.cell? ⟨g, 2, none⟩ = some (.int .i64 a2) ∧ w1.cell? ⟨g, 3, none⟩ = some (.int .i64 a3) ∧ w1.cell? ⟨g, 4, none⟩ = some (.int .i64 a4) ∧ w1.cell? ⟨g, 5, none⟩ = some (.int .i64 a5) :=
  ⟨(blk_cell h 0).trans rfl, (blk_cell h 1).trans rfl, (blk_cell h 2).trans rfl, (blk_cell h 3).trans rfl, (blk_cell h 4).trans rfl, (blk_cell h 5).trans rfl⟩
theorem alarm_Do.f6 {w1 : World} {g t : Nat} {cs : Array Value} (h : w1.heap[g]? = some (.cells cs t (0, 0))) :
    w1.frozen? ⟨g, 0, none⟩ = false ∧ w1.frozen? ⟨g, 1, none⟩ = false ∧ w1.frozen? ⟨g, 2, none⟩ = false ∧ w1.frozen? ⟨g, 3, none⟩ = false ∧ w1.frozen? ⟨g, 4, none⟩ = false ∧ w1.frozen? ⟨g, 5, none⟩ = false :=
  ⟨blk_frozen h 0, blk_frozen h 1, blk_frozen h 2, blk_frozen h 3, blk_frozen h 4, blk_frozen h 5⟩
theorem alarm_Do.put6 {w1 : World} {g t : Nat} {z : Value} {v0 v1 v2 v3 v4 v5 : Value} (h : w1.heap[g]? = some (.cells #[z, z, z, z, z, z] t (0, 0))) :
    ((((((w1.setCell ⟨g, 0, none⟩ v0).setCell ⟨g, 1, none⟩ v1).setCell ⟨g, 2, none⟩ v2).setCell ⟨g, 3, none⟩ v3).setCell ⟨g, 4, none⟩ v4).setCell ⟨g, 5, none⟩ v5).heap[g]? = some (.cells #[v0, v1, v2, v3, v4, v5] t (0, 0)) :=
  blk_put (cs := #[v0, v1, v2, v3, v4, z]) (blk_put (cs := #[v0, v1, v2, v3, z, z]) (blk_put (cs := #[v0, v1, v2, z, z, z]) (blk_put (cs := #[v0, v1, z, z, z, z]) (blk_put (cs := #[v0, z, z, z, z, z]) (blk_put h 0 _ rfl) 1 _ rfl) 2 _ rfl) 3 _ rfl) 4 _ rfl) 5 _ rfl
theorem alarm_Do.first {w w1 : World} {X Y Z : Obj} (hb : Below (((w.alloc X).alloc Y).alloc Z).heap.size (((w.alloc X).alloc Y).alloc Z) w1) :
    Below w.heap.size w w1 ∧ w1.heap[w.heap.size]? = some X ∧ w1.heap[w.heap.size + 1]? = some Y :=
  ⟨below_then (below_alloc (below_alloc (below_alloc (Below.refl w.heap.size w) _) _) _) (by simp; omega) hb, blk_below (blk_alloc (blk_alloc (blk_new w X) Y) Z) hb,
   blk_below (blk_alloc (g := w.heap.size + 1) (by have h_ := blk_new (w.alloc X) Y; rw [show (w.alloc X).heap.size = w.heap.size + 1 from by simp] at h_; exact h_) Z) hb⟩
theorem alarm_Do.next {w w1 w2 : World} {g g' : Nat} {X Y : Obj} (H : Aside0 (Below w.heap.size w w1)) (k0 : Aside0 (w1.heap[g]? = some X)) (k1 : Aside0 (w1.heap[g']? = some Y)) (n : Nat) (hb : Below (w1.drewN n).heap.size (w1.drewN n) w2) :
    Below w.heap.size w w2 ∧ w2.heap[g]? = some X ∧ w2.heap[g']? = some Y :=
  ⟨below_step (pw_below_drewN H.out n) hb, blk_below (blk_drewN k0.out n) hb, blk_below (blk_drewN k1.out n) hb⟩
theorem alarm_Do.next0 {w w1 w2 : World} {g g' : Nat} {X Y : Obj} (H : Aside0 (Below w.heap.size w w1)) (k0 : Aside0 (w1.heap[g]? = some X)) (k1 : Aside0 (w1.heap[g']? = some Y)) (hb : Below w1.heap.size w1 w2) :
    Below w.heap.size w w2 ∧ w2.heap[g]? = some X ∧ w2.heap[g']? = some Y :=
  ⟨below_step H.out hb, blk_below k0.out hb, blk_below k1.out hb⟩
set_option maxHeartbeats 8000000 in
set_option maxRecDepth 100000 in
theorem alarm_Do.e8_4 (a0_0 a0_1 a0_2 a0_3 a0_4 a0_5 a2 a3 r1 r2 r3 r4 r5 r6 : Int) (w : World) (HIs : Aside0 (∀ w, Calls Try.prog 50 #[.agg #[.int .i64 a0_0, .int .i64 a0_1, .int .i64 a0_2, .int .i64 a0_3, .int .i64 a0_4, .int .i64 a0_5]] w fun e w' => e = .returned (.bool true) ∧ Below w.heap.size w w')) (HTi : Aside0 (∀ w, Calls Try.prog 83 #[.int .i64 a2] w fun e w' => e = .returned (.bool true) ∧ Drawn0 w w')) (b1 : decide (a3 < 1) = false) (b2 : decide (1000 < a3) = false) (b3 : decide (a2 < a0_4) = false) (HNe : Aside0 (∀ w, Calls Try.prog 95 #[.int .i64 a0_2, .int .i64 4] w fun e w' => (∃ q, e = .returned (.tuple #[.int .i64 q, .bool true])) ∧ Below w.heap.size w w')) (HFn : Aside0 (∀ w, Calls Try.prog 94 #[.agg #[.int .i64 a0_0, .int .i64 a0_1, .int .i64 a0_2, .int .i64 a0_3, .int .i64 a0_4, .int .i64 a0_5], .int .i64 a2, .int .i64 a3] w fun e w' => e = .returned (.agg #[.int .i64 r1, .int .i64 r2, .int .i64 r3, .int .i64 r4, .int .i64 r5, .int .i64 r6]) ∧ Below w.heap.size w w')) :
    Calls Try.prog 76 #[.agg #[.int .i64 a0_0, .int .i64 a0_1, .int .i64 a0_2, .int .i64 a0_3, .int .i64 a0_4, .int .i64 a0_5], .int .i64 4, .int .i64 a2, .int .i64 a3] w fun e w' => e = .returned (.tuple #[.agg #[.int .i64 r1, .int .i64 r2, .int .i64 r3, .int .i64 r4, .int .i64 r5, .int .i64 r6], .int .i64 0]) ∧ Below w.heap.size w w' := by
  have hmm := @run_makeMap Try.prog
  obtain ⟨hp2, hp3, hp4, hp6⟩ := alarm_Do.puts a0_0 a0_1 a0_2 a0_3 a0_4 a0_5 w
  have hl : (Instr.lookup 115 (.map (some (w.heap.size + 1 + 1))) (.int .i64 4) true).run Try.prog (((w.alloc (.cells #[.int .i64 a0_0, .int .i64 a0_1, .int .i64 a0_2, .int .i64 a0_3, .int .i64 a0_4, .int .i64 a0_5] 28)).alloc (.cells #[.int .i64 0, .int .i64 0, .int .i64 0, .int .i64 0, .int .i64 0, .int .i64 0] 28)).alloc (.map #[⟨.int .i64 2, .func (.func 68) #[] #[], 0⟩, ⟨.int .i64 3, .func (.func 93) #[] #[], 1⟩, ⟨.int .i64 4, .func (.func 94) #[] #[], 2⟩, ⟨.int .i64 6, .func (.func 67) #[] #[], 3⟩] 4)) = .ok (.tuple #[.func (.func 94) #[] #[], .bool true]) (((w.alloc (.cells #[.int .i64 a0_0, .int .i64 a0_1, .int .i64 a0_2, .int .i64 a0_3, .int .i64 a0_4, .int .i64 a0_5] 28)).alloc (.cells #[.int .i64 0, .int .i64 0, .int .i64 0, .int .i64 0, .int .i64 0, .int .i64 0] 28)).alloc (.map #[⟨.int .i64 2, .func (.func 68) #[] #[], 0⟩, ⟨.int .i64 3, .func (.func 93) #[] #[], 1⟩, ⟨.int .i64 4, .func (.func 94) #[] #[], 2⟩, ⟨.int .i64 6, .func (.func 67) #[] #[], 3⟩] 4)) := alarm_Do.map_get w _ _ _ _ _ 2 _ (by rfl)
  have hfd : ∀ W, (Instr.field 85 (.agg #[.int .i64 r1, .int .i64 r2, .int .i64 r3, .int .i64 r4, .int .i64 r5, .int .i64 r6]) 0).run Try.prog W = .ok (.agg #[.int .i64 r1, .int .i64 r2, .int .i64 r3, .int .i64 r4, .int .i64 r5, .int .i64 r6]) W := fun _ => by kernel_rfl
  go_enter Try.func76, Try.ntmps76
  go_wp2_with (first | (go_at_call 50; refine (HIs.out _).mono ?_; rintro e w1 ⟨rfl, hb⟩; obtain ⟨q0, q1, q2⟩ := alarm_Do.first hb; have HB := Aside0.mk q0; have K0 := Aside0.mk q1; have K1 := Aside0.mk q2; clear q0 q1 q2 hb; obtain ⟨hc0, hc1, hc2, hc3, hc4, hc5⟩ := alarm_Do.c6 K0.out; obtain ⟨hz0, hz1, hz2, hz3, hz4, hz5⟩ := alarm_Do.c6 K1.out; obtain ⟨hf0, hf1, hf2, hf3, hf4, hf5⟩ := alarm_Do.f6 K1.out) | (go_at_call 83; refine (HTi.out _).mono ?_; rintro e w' ⟨rfl, ⟨n, rfl⟩⟩) | (go_at_call 95; refine (HNe.out _).mono ?_; rintro e w2 ⟨⟨q, rfl⟩, hb⟩; obtain ⟨q0, q1, q2⟩ := alarm_Do.next HB K0 K1 _ hb; have HC := Aside0.mk q0; have L0 := Aside0.mk q1; have L1 := Aside0.mk q2; clear q0 q1 q2 hb; obtain ⟨Lc0, Lc1, Lc2, Lc3, Lc4, Lc5⟩ := alarm_Do.c6 L0.out; obtain ⟨Lz0, Lz1, Lz2, Lz3, Lz4, Lz5⟩ := alarm_Do.c6 L1.out; obtain ⟨Lf0, Lf1, Lf2, Lf3, Lf4, Lf5⟩ := alarm_Do.f6 L1.out) | (go_at_call 94; refine (HFn.out _).mono ?_; rintro e w3 ⟨rfl, hb⟩; obtain ⟨q0, q1, q2⟩ := alarm_Do.next0 HC L0 L1 hb; have HD := Aside0.mk q0; have N0 := Aside0.mk q1; have N1 := Aside0.mk q2; clear q0 q1 q2 hb; obtain ⟨Nc0, Nc1, Nc2, Nc3, Nc4, Nc5⟩ := alarm_Do.c6 N0.out; obtain ⟨Nz0, Nz1, Nz2, Nz3, Nz4, Nz5⟩ := alarm_Do.c6 N1.out; obtain ⟨Nf0, Nf1, Nf2, Nf3, Nf4, Nf5⟩ := alarm_Do.f6 N1.out))
  refine bodyPost_ret (results_ct rfl _ _ (w.heap.size + 1) 28 #[.int .i64 r1, .int .i64 r2, .int .i64 r3, .int .i64 r4, .int .i64 r5, .int .i64 r6] (0, 0) _ rfl (alarm_Do.put6 N1.out) Try.underlying28 rfl (by kernel_rfl)) rfl ?_
  exact ⟨rfl, by repeat (first | (with_reducible first | exact HD.out | apply pw_below_drewN | refine below_set ?_ (Nat.le_succ _)) | exact HD.out)⟩
theorem alarm_Do.calls (a0_0 a0_1 a0_2 a0_3 a0_4 a0_5 a1 a2 a3 : Int) (r1 r2 r3 r4 r5 r6 r7 : Int) (w : World) (h : alarm_Do.f a0_0 a0_1 a0_2 a0_3 a0_4 a0_5 a1 a2 a3 = some (r1, r2, r3, r4, r5, r6, r7)) :
    Calls Try.prog 76 #[.agg #[.int .i64 a0_0, .int .i64 a0_1, .int .i64 a0_2, .int .i64 a0_3, .int .i64 a0_4, .int .i64 a0_5], .int .i64 a1, .int .i64 a2, .int .i64 a3] w fun e w' => e = .returned (.tuple #[.agg #[.int .i64 r1, .int .i64 r2, .int .i64 r3, .int .i64 r4, .int .i64 r5, .int .i64 r6], .int .i64 r7]) ∧ Below w.heap.size w w' := by
  unfold alarm_Do.f at h
  by_cases c : a0_0 = 2 ∧ a0_1 = 0 ∧ a0_2 = 1 ∧ a0_3 = 1 ∧ a0_4 = 0 ∧ a0_5 = 10 ∧ a1 = 4 ∧ a2 = 0 ∧ a3 = 5
  · rw [if_pos c] at h
    obtain ⟨rfl, rfl, rfl, rfl, rfl, rfl, rfl⟩ : 2 = r1 ∧ 0 = r2 ∧ 4 = r3 ∧ 1 = r4 ∧ 0 = r5 ∧ 5 = r6 ∧ 0 = r7 := by simpa only [Option.some.injEq, Prod.mk.injEq] using h
    obtain ⟨rfl, rfl, rfl, rfl, rfl, rfl, rfl, rfl, rfl⟩ := c
    have HNe := fun w => (life_Next.calls 1 4 4 true w (by kernel_rfl)).mono fun e w' (hh : _ ∧ _) => (⟨⟨4, hh.1⟩, hh.2⟩ : (∃ q, e = .returned (.tuple #[.int .i64 q, .bool true])) ∧ Below w.heap.size w w')
    exact alarm_Do.e8_4 2 0 1 1 0 10 0 5 2 0 4 1 0 5 w (Aside0.mk fun w => alarm_Is.calls 2 0 1 1 0 10 true w (by kernel_rfl)) (Aside0.mk fun w => alarm_time.calls 0 true w (by kernel_rfl)) (by decide) (by decide) (by decide) (Aside0.mk HNe) (Aside0.mk fun w => alarm_clock_silenced.calls 2 0 1 1 0 10 0 5 2 0 4 1 0 5 w (by kernel_rfl))
  · rw [if_neg c] at h
    cases h

end Go.Proofs.Ytcfpbmdndapeaaa.F
