-- Written by a program of this session (xprint.py), out of the translation and of contracts proved by hand.
import Derived.Test.YtcfpbmdndapeaaaF0
import Derived.Test.YtcfpbmdndapeaaaF3
import Derived.Test.YtcfpbmdndapeaaaF5
import Derived.Test.YtcfpbmdndapeaaaF7
import Derived.Test.YtcfpbmdndapeaaaF9
import Derived.Test.YtcfpbmdndapeaaaF10
import Derived.Test.YtcfpbmdndapeaaaF11
import Derived.Test.YtcfpbmdndapeaaaF12
import Derived.Test.YtcfpbmdndapeaaaF14
import Derived.Test.YtcfpbmdndapeaaaF17
import Derived.Test.YtcfpbmdndapeaaaF18
import Derived.Test.YtcfpbmdndapeaaaF19
import Derived.Test.YtcfpbmdndapeaaaF20
namespace Go.Proofs.Ytcfpbmdndapeaaa.F
open Go.RowKit Go.Proofs.YtcfpbmdndapeaaaV.PrintWords Go.Proofs.YtcfpbmdndapeaaaV.PrintLast Go.Proofs.YtcfpbmdndapeaaaV.PrintMore
attribute [local go_sem] max2_int min2_int max_two min_two max_three min_three max_four min_four   -- for this text's walks alone
set_option linter.unusedVariables false
set_option linter.unusedSimpArgs false

/-! ### alarm_Open: function 64 -/
def alarm_Open.j0 : Nat → Int → Int → Bool → Int → Int → Option (Int × Int × Int × Int × Int × Int × Int)
 | 0, _, _, _, _, _ => none
 | k + 1, x1, x2, x20, x352000, x352001 => if x20 = true then (some (0, 0, 0, 0, 0, 0, 1)) else ((alarm_Wait.f x1).bind fun t356 => (some (x352000, x352001, 1, x1, x2, wrap64 (x2 + t356), 0)))
def alarm_Open.f (k : Nat) (a0_0 : Int) (a0_1 : Int) (a1 : Int) (a2 : Int) : Option (Int × Int × Int × Int × Int × Int × Int) := (spot_Is.f a0_0 a0_1).bind fun t353 => (if t353 = true then ((alarm_Wait.f a1).bind fun t354 => (if t354 = 0 then (alarm_Open.j0 k a1 a2 true a0_0 a0_1) else ((alarm_time.f a2).bind fun t355 => (alarm_Open.j0 k a1 a2 (!t355) a0_0 a0_1)))) else (alarm_Open.j0 k a1 a2 true a0_0 a0_1))
theorem alarm_Open.mono_l : ∀ k, (∀ y0 y1 y2 y3 y4, LeO (alarm_Open.j0 k y0 y1 y2 y3 y4) (alarm_Open.j0 (k + 1) y0 y1 y2 y3 y4))
 | 0 => fun _ _ _ _ _ r h => by simp [alarm_Open.j0] at h
 | k + 1 => by
  have ih0 := alarm_Open.mono_l k
  ·intro y0 y1 y2 y3 y4
   unfold alarm_Open.j0
   repeat' first
   | (with_reducible exact ih0 _ _ _ _ _)
   | (with_reducible exact LeO.refl _)
   | (with_reducible exact LeO.none _)
   | (with_reducible refine LeO.ite ?_ ?_)
   | (with_reducible refine LeO.bind ?_ (fun _ => ?_))
   | exact ih0 _ _ _ _ _
   | exact LeO.none _
   | refine LeO.ite ?_ ?_
   | refine LeO.bind ?_ (fun _ => ?_)
theorem alarm_Open.mono : ∀ a0 a1 a2 a3 k, LeO (alarm_Open.f k a0 a1 a2 a3) (alarm_Open.f (k + 1) a0 a1 a2 a3) := by
 intro a0 a1 a2 a3 k
 have ih0 := alarm_Open.mono_l k
 unfold alarm_Open.f
 repeat' first
   | (with_reducible exact ih0 _ _ _ _ _)
   | (with_reducible exact LeO.refl _)
   | (with_reducible exact LeO.none _)
   | (with_reducible refine LeO.ite ?_ ?_)
   | (with_reducible refine LeO.bind ?_ (fun _ => ?_))
   | exact ih0 _ _ _ _ _
   | exact LeO.none _
   | refine LeO.ite ?_ ?_
   | refine LeO.bind ?_ (fun _ => ?_)
def alarm_Open.T3 : Bool × List (List Nat × List Nat) := (true, [([], []), ([], []), ([], []), ([], []), ([], []), ([4], [4]), ([3, 5], [3, 5]), ([0, 1, 2, 6], [0, 1, 2, 6]), ([7, 5, 0, 1, 2, 3, 4, 5, 6, 7], [7]), ([8, 0, 1, 2, 3, 4, 5, 6, 7, 8], [])])
def alarm_Open.B3 : List Nat := [0, 0, 0, 0, 0, 16, 56, 127, 255, 511]
theorem alarm_Open.tab3 : rtab .any (opsOf Try.f64 3) = alarm_Open.T3 := by kernel_rfl
theorem alarm_Open.bits3 : waitsOk alarm_Open.T3.2 alarm_Open.B3 = true := by kernel_rfl
set_option maxHeartbeats 8000000 in
set_option maxRecDepth 100000 in
theorem alarm_Open.calls (k : Nat) (a0_0 : Int) (a0_1 : Int) (a1 : Int) (a2 : Int) (r1 : Int) (r2 : Int) (r3 : Int) (r4 : Int) (r5 : Int) (r6 : Int) (r7 : Int) (w : World) (h : alarm_Open.f k a0_0 a0_1 a1 a2 = some (r1, r2, r3, r4, r5, r6, r7)) :
  Calls Try.prog 64 #[.agg #[.int .i64 a0_0, .int .i64 a0_1], .int .i64 a1, .int .i64 a2] w fun e w' => e = .returned (.tuple #[.agg #[.int .i64 r1, .int .i64 r2, .int .i64 r3, .int .i64 r4, .int .i64 r5, .int .i64 r6], .int .i64 r7]) ∧ Below w.heap.size w w' := by
 have hu26 := Try.underlying26
 have hu28 := Try.underlying28
 have HB := Aside0.mk (Below.refl w.heap.size w)
 have H : ((spot_Is.f a0_0 a0_1).bind fun t353 => (if t353 = true then ((alarm_Wait.f a1).bind fun t354 => (if t354 = 0 then (alarm_Open.j0 k a1 a2 true a0_0 a0_1) else ((alarm_time.f a2).bind fun t355 => (alarm_Open.j0 k a1 a2 (!t355) a0_0 a0_1)))) else (alarm_Open.j0 k a1 a2 true a0_0 a0_1))) = some (r1, r2, r3, r4, r5, r6, r7) := h
 clear h
 have HC4 := Aside0.mk H
 clear H
 go_enter Try.func64, Try.ntmps64
 go_upto_region 1 with (first | ((with_reducible refine gate_dst (N := 3) rfl ?_); refine box_event ?hg (N := 3) ?hd (cs := #[.int .i64 a0_0, .int .i64 a0_1]) (t := 26) ?hr ?_; (case hd => rfl); (case hg => rfl); (case hr => first | (go_simp; done) | (go_simp; rfl)); intro gb351 hg w5 hbox hb; have BK351 := Aside0.mk (hbox); have GW351 := Aside0.mk ((by rw [hg]; exact (below_size HB.out) : w.heap.size ≤ gb351)); have GE351 := Aside0.mk ((by rw [hg]; exact (below_size HB.out) : w.heap.size ≤ gb351)); replace HB := Aside0.mk (below_step HB.out hb); clear hb hbox hg) | ((with_reducible refine gate_dst (N := 6) rfl ?_); refine box_event ?hg (N := 6) ?hd (cs := #[.int .i64 0, .int .i64 0, .int .i64 0, .int .i64 0, .int .i64 0, .int .i64 0]) (t := 28) ?hr ?_; (case hd => rfl); (case hg => rfl); (case hr => first | (go_simp; done) | (go_simp; rfl)); intro gb352 hg w6 hbox hb; have BK352 := Aside0.mk (hbox); have GW352 := Aside0.mk ((by rw [hg]; exact (below_size (by repeat (with_reducible first | exact HB.out | apply pw_below_drewN | apply below_drew1 | refine below_set ?_ GE351.out))) : w.heap.size ≤ gb352)); have GE352 := Aside0.mk ((by rw [hg]; exact (below_size (by repeat (with_reducible first | exact HB.out | apply pw_below_drewN | apply below_drew1 | refine below_set ?_ GE351.out))) : w.heap.size ≤ gb352)); replace HB := Aside0.mk (below_step (by repeat (with_reducible first | exact HB.out | apply pw_below_drewN | apply below_drew1 | refine below_set ?_ GE351.out)) hb); have NB351_352 := Aside0.mk ((by rw [hg]; exact Nat.ne_of_lt (blk_lt BK351.out) : gb351 ≠ gb352)); have NB352_351 := Aside0.mk ((by rw [hg]; exact Nat.ne_of_gt (blk_lt BK351.out) : gb352 ≠ gb351)); replace BK351 := bl_ BK351 hb; clear hb hbox hg))
 (try simp only [Act.put, List.setIfInBounds_toArray, List.set_cons_zero, List.set_cons_succ])
 go_cut [20] (fun v20 wc => ∃ (kq : Nat) (x20_3 : Bool), v20 = .bool x20_3 ∧ Aside0 (alarm_Open.j0 kq a1 a2 x20_3 a0_0 a0_1 = some (r1, r2, r3, r4, r5, r6, r7)) ∧ Aside0 (kq ≤ k) ∧ Aside0 (wc.heap[gb351]? = some (.cells #[.int .i64 a0_0, .int .i64 a0_1] 26 (0, 0))) ∧ Aside0 (wc.heap[gb352]? = some (.cells #[.int .i64 0, .int .i64 0, .int .i64 0, .int .i64 0, .int .i64 0, .int .i64 0] 28 (0, 0))) ∧ Aside0 (Below w.heap.size w wc))
 case first =>
  have H := HC4.out
  clear HC4
  replace H := Option.bind_eq_some_iff.mp H
  obtain ⟨t353, A70, H⟩ := H
  try dsimp only at H
  have A7 := Aside0.mk A70
  clear A70
  by_cases c8 : t353 = true
  ·subst c8
   rw [if_pos rfl] at H; try dsimp only at H
   replace H := Option.bind_eq_some_iff.mp H
   obtain ⟨t354, A90, H⟩ := H
   try dsimp only at H
   have A9 := Aside0.mk A90
   clear A90
   by_cases c10 : t354 = 0
   ·rw [if_pos c10] at H
    have c10b0 : (t354 == 0) = true := beq_iff_eq.mpr c10
    have c10b1 : (t354 != 0) = false := bne_eq_false_iff_eq.mpr c10
    clear c10
    (first | rw [c10b0] | (simp only [i64_w, i32_w]; rw [c10b0]) | skip)
    have H' := Aside0.mk H
    clear H
    have hnb11 := NB351_352.out
    have hnc11 := NB352_351.out
    have hcz12_0 : w6.cell? ⟨gb351, 0, none⟩ = some (.int .i64 a0_0) := (blk_cell BK351.out 0).trans rfl
    have hcz12_1 : w6.cell? ⟨gb351, 1, none⟩ = some (.int .i64 a0_1) := (blk_cell BK351.out 1).trans rfl
    have hfz12_0 := blk_frozen BK351.out 0
    have hfz12_1 := blk_frozen BK351.out 1
    go_wp2_with (first | ((with_reducible refine gate_callee (f := 81) rfl ?_); refine goesL_ (some 9) rfl rfl Try.func81 (by kernel_rfl) rfl #[.agg #[.int .i64 a0_0, .int .i64 a0_1]] rfl (by (try simp only [List.map_toArray, List.map_cons, List.map_nil]); first | done | rfl | (simp only [List.length_drop, List.length_take]; rfl)) ?_; (with_reducible refine (spot_Is.calls a0_0 a0_1 true _ A7.out).mono ?_); rintro e w13 ⟨rfl, hb⟩; refine ⟨_, rfl, ?_⟩; replace BK351 := bl_ BK351 hb; replace BK352 := bl_ BK352 hb; replace HB := Aside0.mk (below_step (by repeat (with_reducible first | exact HB.out | apply pw_below_drewN | apply below_drew1 | refine below_set ?_ (Aside0.out (by assumption)))) hb); (try clear hb); (try clear hb2); (try clear hk); (try clear hi)) | (go_at_call 82; (with_reducible refine (alarm_Wait.calls a1 t354 _ A9.out).mono ?_); rintro e w' ⟨rfl, ⟨nd, rfl⟩⟩))
    go_meet
    case rel => exact ⟨_, (true), (by first | rfl | (simp; done) | (simp [*]; done)), H', ⟨by first | omega | exact Nat.le_refl _⟩, ⟨by (with_reducible repeat (first | refine blk_drewN ?_ _ | refine blk_drew ?_ | refine blk_alloc ?_ _)); exact BK351.out⟩, ⟨by (with_reducible repeat (first | refine blk_drewN ?_ _ | refine blk_drew ?_ | refine blk_alloc ?_ _)); exact BK352.out⟩, ⟨by repeat (with_reducible first | exact HB.out | apply pw_below_drewN | apply below_drew1 | refine below_set ?_ (Aside0.out (by assumption)))⟩⟩
   ·rw [if_neg c10] at H
    have c10b0 : (t354 == 0) = false := beq_eq_false_iff_ne.mpr c10
    have c10b1 : (t354 != 0) = true := bne_iff_ne.mpr c10
    (first | rw [c10b0] | (simp only [i64_w, i32_w]; rw [c10b0]) | skip)
    replace H := Option.bind_eq_some_iff.mp H
    obtain ⟨t355, A140, H⟩ := H
    try dsimp only at H
    have A14 := Aside0.mk A140
    clear A140
    have H' := Aside0.mk H
    clear H
    have hnb15 := NB351_352.out
    have hnc15 := NB352_351.out
    have hcz16_0 : w6.cell? ⟨gb351, 0, none⟩ = some (.int .i64 a0_0) := (blk_cell BK351.out 0).trans rfl
    have hcz16_1 : w6.cell? ⟨gb351, 1, none⟩ = some (.int .i64 a0_1) := (blk_cell BK351.out 1).trans rfl
    have hfz16_0 := blk_frozen BK351.out 0
    have hfz16_1 := blk_frozen BK351.out 1
    go_wp2_with (first | ((with_reducible refine gate_callee (f := 81) rfl ?_); refine goesL_ (some 9) rfl rfl Try.func81 (by kernel_rfl) rfl #[.agg #[.int .i64 a0_0, .int .i64 a0_1]] rfl (by (try simp only [List.map_toArray, List.map_cons, List.map_nil]); first | done | rfl | (simp only [List.length_drop, List.length_take]; rfl)) ?_; (with_reducible refine (spot_Is.calls a0_0 a0_1 true _ A7.out).mono ?_); rintro e w17 ⟨rfl, hb⟩; refine ⟨_, rfl, ?_⟩; replace BK351 := bl_ BK351 hb; replace BK352 := bl_ BK352 hb; replace HB := Aside0.mk (below_step (by repeat (with_reducible first | exact HB.out | apply pw_below_drewN | apply below_drew1 | refine below_set ?_ (Aside0.out (by assumption)))) hb); (try clear hb); (try clear hb2); (try clear hk); (try clear hi)) | (go_at_call 82; (with_reducible refine (alarm_Wait.calls a1 t354 _ A9.out).mono ?_); rintro e w' ⟨rfl, ⟨nd, rfl⟩⟩) | (go_at_call 83; (with_reducible refine (alarm_time.calls a2 t355 _ A14.out).mono ?_); rintro e w' ⟨rfl, ⟨nd, rfl⟩⟩))
    go_meet
    case rel => exact ⟨_, (!t355), (by first | rfl | (simp; done) | (simp [*]; done)), H', ⟨by first | omega | exact Nat.le_refl _⟩, ⟨by (with_reducible repeat (first | refine blk_drewN ?_ _ | refine blk_drew ?_ | refine blk_alloc ?_ _)); exact BK351.out⟩, ⟨by (with_reducible repeat (first | refine blk_drewN ?_ _ | refine blk_drew ?_ | refine blk_alloc ?_ _)); exact BK352.out⟩, ⟨by repeat (with_reducible first | exact HB.out | apply pw_below_drewN | apply below_drew1 | refine below_set ?_ (Aside0.out (by assumption)))⟩⟩
  ·replace c8 := Bool.eq_false_iff.mpr c8
   subst c8
   rw [if_neg (show ¬ (false = true) by decide)] at H; try dsimp only at H
   have H' := Aside0.mk H
   clear H
   have hnb18 := NB351_352.out
   have hnc18 := NB352_351.out
   have hcz19_0 : w6.cell? ⟨gb351, 0, none⟩ = some (.int .i64 a0_0) := (blk_cell BK351.out 0).trans rfl
   have hcz19_1 : w6.cell? ⟨gb351, 1, none⟩ = some (.int .i64 a0_1) := (blk_cell BK351.out 1).trans rfl
   have hfz19_0 := blk_frozen BK351.out 0
   have hfz19_1 := blk_frozen BK351.out 1
   go_wp2_with (first | ((with_reducible refine gate_callee (f := 81) rfl ?_); refine goesL_ (some 9) rfl rfl Try.func81 (by kernel_rfl) rfl #[.agg #[.int .i64 a0_0, .int .i64 a0_1]] rfl (by (try simp only [List.map_toArray, List.map_cons, List.map_nil]); first | done | rfl | (simp only [List.length_drop, List.length_take]; rfl)) ?_; (with_reducible refine (spot_Is.calls a0_0 a0_1 false _ A7.out).mono ?_); rintro e w20 ⟨rfl, hb⟩; refine ⟨_, rfl, ?_⟩; replace BK351 := bl_ BK351 hb; replace BK352 := bl_ BK352 hb; replace HB := Aside0.mk (below_step (by repeat (with_reducible first | exact HB.out | apply pw_below_drewN | apply below_drew1 | refine below_set ?_ (Aside0.out (by assumption)))) hb); (try clear hb); (try clear hb2); (try clear hk); (try clear hi)))
   go_meet
   case rel => exact ⟨_, (true), (by first | rfl | (simp; done) | (simp [*]; done)), H', ⟨by first | omega | exact Nat.le_refl _⟩, ⟨by (with_reducible repeat (first | refine blk_drewN ?_ _ | refine blk_drew ?_ | refine blk_alloc ?_ _)); exact BK351.out⟩, ⟨by (with_reducible repeat (first | refine blk_drewN ?_ _ | refine blk_drew ?_ | refine blk_alloc ?_ _)); exact BK352.out⟩, ⟨by repeat (with_reducible first | exact HB.out | apply pw_below_drewN | apply below_drew1 | refine below_set ?_ (Aside0.out (by assumption)))⟩⟩
 case rest =>
  clear HC4
  try clear c1; try clear p2; try clear c6; try clear c8; try clear c10; try clear c10b0; try clear c10b1; try clear c11; try clear c15; try clear c18; try clear hcz12_0; try clear hcz12_1; try clear hcz16_0; try clear hcz16_1; try clear hcz19_0; try clear hcz19_1; try clear hfz12_0; try clear hfz12_1; try clear hfz16_0; try clear hfz16_1; try clear hfz19_0; try clear hfz19_1
  obtain ⟨kq, x20_3, rfl, HA, HJ3, BK351, BK352, HB⟩ := hcut
  cases kq with
  | zero => exact absurd HA.out (by simp [alarm_Open.j0])
  | succ kj3 =>
   have H := HA.out
   clear HA
   simp only [alarm_Open.j0] at H
   by_cases c21 : x20_3 = true
   ·subst c21
    rw [if_pos rfl] at H; try dsimp only at H
    simp only [Option.some.injEq, Prod.mk.injEq] at H
    obtain ⟨rfl, rfl, rfl, rfl, rfl, rfl, rfl⟩ := H
    have hnb22 := NB352_351.out
    have hnc22 := NB351_352.out
    have hcz23_0 : wc.cell? ⟨gb352, 0, none⟩ = some (.int .i64 0) := (blk_cell BK352.out 0).trans rfl
    have hcz23_1 : wc.cell? ⟨gb352, 1, none⟩ = some (.int .i64 0) := (blk_cell BK352.out 1).trans rfl
    have hcz23_2 : wc.cell? ⟨gb352, 2, none⟩ = some (.int .i64 0) := (blk_cell BK352.out 2).trans rfl
    have hcz23_3 : wc.cell? ⟨gb352, 3, none⟩ = some (.int .i64 0) := (blk_cell BK352.out 3).trans rfl
    have hcz23_4 : wc.cell? ⟨gb352, 4, none⟩ = some (.int .i64 0) := (blk_cell BK352.out 4).trans rfl
    have hcz23_5 : wc.cell? ⟨gb352, 5, none⟩ = some (.int .i64 0) := (blk_cell BK352.out 5).trans rfl
    have hfz23_0 := blk_frozen BK352.out 0
    have hfz23_1 := blk_frozen BK352.out 1
    have hfz23_2 := blk_frozen BK352.out 2
    have hfz23_3 := blk_frozen BK352.out 3
    have hfz23_4 := blk_frozen BK352.out 4
    have hfz23_5 := blk_frozen BK352.out 5
    go_wp2
    refine bodyPost_ret (results_ct rfl _ _ gb352 28 #[.int .i64 0, .int .i64 0, .int .i64 0, .int .i64 0, .int .i64 0, .int .i64 0] (0, 0) _ rfl (by refine blk_put (cs := #[.int .i64 0, .int .i64 0, .int .i64 0, .int .i64 0, .int .i64 0, .int .i64 0]) ?_ 5 _ rfl; refine blk_put (cs := #[.int .i64 0, .int .i64 0, .int .i64 0, .int .i64 0, .int .i64 0, .int .i64 0]) ?_ 4 _ rfl; refine blk_put (cs := #[.int .i64 0, .int .i64 0, .int .i64 0, .int .i64 0, .int .i64 0, .int .i64 0]) ?_ 3 _ rfl; refine blk_put (cs := #[.int .i64 0, .int .i64 0, .int .i64 0, .int .i64 0, .int .i64 0, .int .i64 0]) ?_ 2 _ rfl; refine blk_put (cs := #[.int .i64 0, .int .i64 0, .int .i64 0, .int .i64 0, .int .i64 0, .int .i64 0]) ?_ 1 _ rfl; refine blk_put (cs := #[.int .i64 0, .int .i64 0, .int .i64 0, .int .i64 0, .int .i64 0, .int .i64 0]) ?_ 0 _ rfl; exact BK352.out) Try.underlying28 rfl (by kernel_rfl)) rfl ?_
    exact ⟨by first | rfl | (simp [errW_none, errW_some] <;> rfl) | (simp [*, errW_none, errW_some] <;> rfl), by repeat (with_reducible first | exact HB.out | apply pw_below_drewN | apply below_drew1 | refine below_set ?_ (Aside0.out (by assumption)))⟩
   ·replace c21 := Bool.eq_false_iff.mpr c21
    subst c21
    rw [if_neg (show ¬ (false = true) by decide)] at H; try dsimp only at H
    replace H := Option.bind_eq_some_iff.mp H
    obtain ⟨t356, A240, H⟩ := H
    try dsimp only at H
    have A24 := Aside0.mk A240
    clear A240
    simp only [Option.some.injEq, Prod.mk.injEq] at H
    obtain ⟨rfl, rfl, rfl, rfl, rfl, rfl, rfl⟩ := H
    try go_wp2
    replace BK351 := Aside0.mk (blk_drew BK351.out)
    replace BK352 := Aside0.mk (blk_drew BK352.out)
    replace HB := Aside0.mk (below_drew1 HB.out)
    refine start_ (n := 10) (S := fun w' => w'.cell? ⟨gb351, 0, none⟩ = some (.int .i64 a0_0) ∧ w'.cell? ⟨gb351, 1, none⟩ = some (.int .i64 a0_1)) (ds := []) #[false, false, false, false, false, false, false, false, false, false] (by kernel_rfl) rfl rfl ⟨(blk_cell BK351.out 0).trans rfl, (blk_cell BK351.out 1).trans rfl⟩ (fun hHeld => ?_); refine with_tabW alarm_Open.tab3 alarm_Open.bits3 (fun HT_ HW_ => ?_)
    generalize wc.drew = w25 at BK351 BK352 HB hHeld ⊢
    have Q_ := Qs.mk (n := 10) [(0, 1, 23, 2), (0, 2, 24, 6), (0, 3, 25, 14), (0, 4, 26, 30), (2, 0, 22, 31)]
    iterate 5 (first | (obtain ⟨q_, Q_⟩ := Qs.p Q_; refine pureQ_ q_ (v := ?_) (a' := ?_) rfl rfl (any_of HT_.out (by kernel_rfl)) (fun _ _ _ h => h) (Or.inl ⟨by rfl, ?_⟩) ?_ ?_; rotate_left; (intro w'; go_simp; with_reducible rfl); rotate_left; (simp only [Act.put, List.setIfInBounds_toArray, List.set_cons_zero, List.set_cons_succ, i64_w, i32_w]; rfl)) | (obtain ⟨q_, Q_⟩ := Qs.t Q_; refine takeQ_ q_ (v := ?_) (a' := ?_) rfl rfl (take_ofW HT_.out HW_.out (by kernel_rfl)) (fun _ _ _ h => h) (Or.inl ⟨by rfl, ?_⟩) hHeld ?_ ?_; rotate_left; (rintro w' ⟨s0, s1⟩; go_simp; with_reducible rfl); rotate_left; (simp only [Act.put, List.setIfInBounds_toArray, List.set_cons_zero, List.set_cons_succ, i64_w, i32_w]; rfl)))
    clear Q_
    refine one_ (i := 5) (N := some 27) (dn_ 6 10) rfl rfl (one_of HT_.out (by kernel_rfl)) (by decide) (fun K hK => ?_)
    refine goes_ Try.func82 (by kernel_rfl) rfl #[.int .i64 a1] (by rfl) rfl rfl (by (try simp only [List.map_toArray, List.map_cons, List.map_nil]); first | done | rfl | (simp only [List.length_drop, List.length_take]; rfl)) ?_
    with_reducible refine (alarm_Wait.calls a1 t356 _ A24.out).mono ?_
    rintro e w' ⟨rfl, ⟨nd, rfl⟩⟩
    refine ⟨_, rfl, ?_⟩
    refine hK.out _ _ ⟨(blk_cell BK351.out 0).trans rfl, (blk_cell BK351.out 1).trans rfl⟩ (fun hHeld => ?_)
    clear hK K
    refine norm_ (a' := ?_) ?_ ?_
    rotate_left
    ·show Act.put _ (some 27) _ = _
     simp only [Act.put, List.setIfInBounds_toArray, List.set_cons_zero, List.set_cons_succ, i64_w, i32_w]
     rfl
    refine pure_ (i := 6) (N := some 28) (v := ?_) (a' := ?_) (dn_ 7 10) rfl rfl (any_of HT_.out (by kernel_rfl)) (fun _ _ _ h => h) (Or.inl ⟨by rfl, ?_⟩) ?_ ?_
    rotate_left
    ·intro w'
     go_simp
     with_reducible rfl
    rotate_left; (simp only [Act.put, List.setIfInBounds_toArray, List.set_cons_zero, List.set_cons_succ, i64_w, i32_w]; rfl)
    refine pure_ (i := 7) (N := some 29) (v := ?_) (a' := ?_) (dn_ 8 10) rfl rfl (any_of HT_.out (by kernel_rfl)) (fun _ _ _ h => h) (Or.inl ⟨by rfl, ?_⟩) ?_ ?_
    rotate_left
    ·intro w'
     go_simp
     with_reducible rfl
    rotate_left; (simp only [Act.put, List.setIfInBounds_toArray, List.set_cons_zero, List.set_cons_succ, i64_w, i32_w]; rfl)
    refine one_ (i := 8) (N := none) (dn_ 9 10) rfl rfl (one_of HT_.out (by kernel_rfl)) (by decide) (fun K hK => ?_)
    have hs26 : w25.cell? ⟨gb352, 0, none⟩ = some (.int .i64 0) := (blk_cell BK352.out 0).trans rfl
    have hfs26 := blk_frozen BK352.out 0
    have hns26_0 := NB351_352.out
    have hms26_0 := NB352_351.out
    have hs27 : w25.cell? ⟨gb352, 1, none⟩ = some (.int .i64 0) := (blk_cell BK352.out 1).trans rfl
    have hfs27 := blk_frozen BK352.out 1
    have hns27_0 := NB351_352.out
    have hms27_0 := NB352_351.out
    have hs28 : w25.cell? ⟨gb352, 2, none⟩ = some (.int .i64 0) := (blk_cell BK352.out 2).trans rfl
    have hfs28 := blk_frozen BK352.out 2
    have hns28_0 := NB351_352.out
    have hms28_0 := NB352_351.out
    have hs29 : w25.cell? ⟨gb352, 3, none⟩ = some (.int .i64 0) := (blk_cell BK352.out 3).trans rfl
    have hfs29 := blk_frozen BK352.out 3
    have hns29_0 := NB351_352.out
    have hms29_0 := NB352_351.out
    have hs30 : w25.cell? ⟨gb352, 4, none⟩ = some (.int .i64 0) := (blk_cell BK352.out 4).trans rfl
    have hfs30 := blk_frozen BK352.out 4
    have hns30_0 := NB351_352.out
    have hms30_0 := NB352_351.out
    have hs31 : w25.cell? ⟨gb352, 5, none⟩ = some (.int .i64 0) := (blk_cell BK352.out 5).trans rfl
    have hfs31 := blk_frozen BK352.out 5
    have hns31_0 := NB351_352.out
    have hms31_0 := NB352_351.out
    refine skip_ (w1 := ?_) (by rfl) rfl ?_ ?_
    rotate_left
    ·go_simp
     rfl
    refine hK.out _ _ ⟨((cell_far (p := ⟨gb352, _, none⟩) NB351_352.out _).trans (((cell_far (p := ⟨gb352, _, none⟩) NB351_352.out _).trans (((cell_far (p := ⟨gb352, _, none⟩) NB351_352.out _).trans (((cell_far (p := ⟨gb352, _, none⟩) NB351_352.out _).trans (((cell_far (p := ⟨gb352, _, none⟩) NB351_352.out _).trans (((cell_far (p := ⟨gb352, _, none⟩) NB351_352.out _).trans (hHeld.1)))))))))))), ((cell_far (p := ⟨gb352, _, none⟩) NB351_352.out _).trans (((cell_far (p := ⟨gb352, _, none⟩) NB351_352.out _).trans (((cell_far (p := ⟨gb352, _, none⟩) NB351_352.out _).trans (((cell_far (p := ⟨gb352, _, none⟩) NB351_352.out _).trans (((cell_far (p := ⟨gb352, _, none⟩) NB351_352.out _).trans (((cell_far (p := ⟨gb352, _, none⟩) NB351_352.out _).trans (hHeld.2))))))))))))⟩ (fun hHeld => ?_)
    clear hK K
    refine pure_ (i := 9) (N := some 7) (v := ?_) (a' := ?_) #[true, true, true, true, true, true, true, true, true, true] rfl rfl (any_of HT_.out (by kernel_rfl)) (fun _ _ _ h => h) (Or.inl ⟨by rfl, ?_⟩) ?_ ?_
    rotate_left
    ·intro w'
     go_simp
     with_reducible rfl
    rotate_left; (simp only [Act.put, List.setIfInBounds_toArray, List.set_cons_zero, List.set_cons_succ, i64_w, i32_w]; rfl)
    refine done_ (done_of HT_.out (by kernel_rfl)) ?_
    try go_wp2
    refine bodyPost_ret (results_ct rfl _ _ gb352 28 #[.int .i64 a0_0, .int .i64 a0_1, .int .i64 1, .int .i64 a1, .int .i64 a2, .int .i64 (wrap64 (a2 + t356))] (0, 0) _ rfl (by refine blk_put (cs := #[.int .i64 a0_0, .int .i64 a0_1, .int .i64 1, .int .i64 a1, .int .i64 a2, .int .i64 0]) ?_ 5 _ rfl; refine blk_put (cs := #[.int .i64 a0_0, .int .i64 a0_1, .int .i64 1, .int .i64 a1, .int .i64 0, .int .i64 0]) ?_ 4 _ rfl; refine blk_put (cs := #[.int .i64 a0_0, .int .i64 a0_1, .int .i64 1, .int .i64 0, .int .i64 0, .int .i64 0]) ?_ 3 _ rfl; refine blk_put (cs := #[.int .i64 a0_0, .int .i64 a0_1, .int .i64 0, .int .i64 0, .int .i64 0, .int .i64 0]) ?_ 2 _ rfl; refine blk_put (cs := #[.int .i64 a0_0, .int .i64 0, .int .i64 0, .int .i64 0, .int .i64 0, .int .i64 0]) ?_ 1 _ rfl; refine blk_put (cs := #[.int .i64 0, .int .i64 0, .int .i64 0, .int .i64 0, .int .i64 0, .int .i64 0]) ?_ 0 _ rfl; exact BK352.out) Try.underlying28 rfl (by kernel_rfl)) rfl ?_
    exact ⟨by first | rfl | (simp [errW_none, errW_some] <;> rfl) | (simp [*, errW_none, errW_some] <;> rfl), by repeat (with_reducible first | exact HB.out | apply pw_below_drewN | apply below_drew1 | refine below_set ?_ (Aside0.out (by assumption)))⟩

/-! ### watchmanlaw08_boards: function 31 -/
theorem watchmanlaw08_boards.e_a : alarm_Open.f 100 1 0 2 0 = some (1, 0, 1, 2, 0, 30, 0) := by kernel_rfl
theorem watchmanlaw08_boards.e_b : board_New.f 1 = some (1, 0, ([] : List S28), 0) := by kernel_rfl
theorem watchmanlaw08_boards.e_c : board_Put.f 100 1 0 ([] : List S28) 1 0 1 2 0 30 = some (1, 0, [(⟨(⟨1, 0⟩ : S26), 1, 2, 0, 30⟩ : S28)], 0) := by kernel_rfl
theorem watchmanlaw08_boards.e_h : board_Put.f 100 1 0 [(⟨(⟨1, 0⟩ : S26), 1, 2, 0, 30⟩ : S28)] 2 0 1 2 0 30 = some (0, 0, ([] : List S28), 81) := by kernel_rfl
theorem watchmanlaw08_boards.e_i : board_Drop.f 100 1 0 [(⟨(⟨1, 0⟩ : S26), 1, 2, 0, 30⟩ : S28)] 2 0 = some (0, 0, ([] : List S28), 80) := by kernel_rfl
theorem watchmanlaw08_boards.e_d : board_Drop.f 100 1 0 [(⟨(⟨1, 0⟩ : S26), 1, 2, 0, 30⟩ : S28)] 1 0 = some (1, 0, ([] : List S28), 0) := by kernel_rfl
theorem watchmanlaw08_boards.e_x : board_Pass.f 100 1 0 [(⟨(⟨1, 0⟩ : S26), 1, 2, 0, 30⟩ : S28)] 30 = some (1, 30, [(⟨(⟨1, 0⟩ : S26), 2, 2, 0, 30⟩ : S28)], 0) := by kernel_rfl
theorem watchmanlaw08_boards.e_y : board_Get.f 1 30 [(⟨(⟨1, 0⟩ : S26), 2, 2, 0, 30⟩ : S28)] 1 0 = some (1, 0, 2, 2, 0, 30, true) := by kernel_rfl
theorem watchmanlaw08_boards.e_same : watchmanref08_Same.f 100 1 0 ([] : List S28) 1 0 ([] : List S28) = some true := by kernel_rfl
theorem watchmanlaw08_boards.e_is : board_Is.f 100 1 30 [(⟨(⟨1, 0⟩ : S26), 2, 2, 0, 30⟩ : S28)] = some true := by kernel_rfl
theorem watchmanlaw08_boards.e_of1 : board_Of.f 1 30 [(⟨(⟨1, 0⟩ : S26), 2, 2, 0, 30⟩ : S28)] [1] = some [(⟨(⟨1, 0⟩ : S26), 2, 2, 0, 30⟩ : S28)] := by kernel_rfl
theorem watchmanlaw08_boards.e_of2 : board_Of.f 1 30 [(⟨(⟨1, 0⟩ : S26), 2, 2, 0, 30⟩ : S28)] [2] = some ([] : List S28) := by kernel_rfl
def watchmanlaw08_boards.f : Option Bool := some true
set_option maxHeartbeats 8000000 in
set_option maxRecDepth 100000 in
theorem watchmanlaw08_boards.calls (r : Bool) (w : World) (h : watchmanlaw08_boards.f = some r) :
    Calls Try.prog 31 #[] w fun e w' => e = .returned (.bool r) ∧ Below w.heap.size w w' := by
  obtain rfl := Option.some.inj h
  clear h
  have hu := Try.underlying24
  have hu2 := Try.underlying28
  have hu3 := Try.underlying26
  have HT := Aside0.mk (T.Tell.init w)
  go_enter Try.func31, Try.ntmps31
  go_wp2_with (first | ((with_reducible refine gate_dst (N := 20) rfl ?_); (try (refine gate_guard (by rfl) ?_; dsimp only)); refine goesL_ (some 20) rfl rfl Try.func23 (by kernel_rfl) rfl #[.int .i64 1] rfl (by (try simp only [List.map_toArray, List.map_cons, List.map_nil]); first | done | rfl) ?_; (with_reducible refine (board_New.calls 1 1 0 ([] : List S28) 0 _ watchmanlaw08_boards.e_b).mono ?_); rintro e_ w_20 ⟨v_, rfl, ho, hb⟩; refine ⟨_, rfl, ?_⟩; obtain ⟨A_b, c_b, rfl⟩ := Kd.R_slice ho; replace HT := Aside0.mk (HT.out.pushR ho hb); clear ho hb) | ((with_reducible refine gate_dst (N := 25) rfl ?_); (try (refine gate_guard (by rfl) ?_; dsimp only)); replace HT := Aside0.mk (HT.out.pushB #[.int .i64 1, .int .i64 0, .slice A_b ([] : List S28).length c_b] 24); refine goesL_ (some 25) rfl rfl Try.func64 (by kernel_rfl) rfl #[.agg #[.int .i64 1, .int .i64 0], .int .i64 2, .int .i64 0] rfl (by (try simp only [List.map_toArray, List.map_cons, List.map_nil]); first | done | rfl) ?_; (with_reducible refine (alarm_Open.calls 100 1 0 2 0 1 0 1 2 0 30 0 _ watchmanlaw08_boards.e_a).mono ?_); rintro e_ w_25 ⟨rfl, hb⟩; refine ⟨_, rfl, ?_⟩; replace HT := Aside0.mk (HT.out.step hb); clear hb; have hx0_B_b := (HT.out.bx 0 rfl 0).trans rfl; have hx1_B_b := (HT.out.bx 0 rfl 1).trans rfl; have hx2_B_b := (HT.out.bx 0 rfl 2).trans rfl; have hz_B_b := (HT.out.far 0 rfl (k := w_20.heap.size) rfl).1) | ((with_reducible refine gate_dst (N := 31) rfl ?_); (try (refine gate_guard (by rfl) ?_; dsimp only)); replace HT := Aside0.mk (HT.out.pushB #[.int .i64 1, .int .i64 0, .int .i64 1, .int .i64 2, .int .i64 0, .int .i64 30] 28); refine goesL_ (some 31) rfl rfl Try.func15 (by kernel_rfl) rfl #[.agg #[.int .i64 1, .int .i64 0, .slice A_b ([] : List S28).length c_b], .agg #[.int .i64 1, .int .i64 0, .int .i64 1, .int .i64 2, .int .i64 0, .int .i64 30]] rfl (by (try simp only [List.map_toArray, List.map_cons, List.map_nil]); first | done | rfl) ?_; (with_reducible refine (board_Put.calls 100 1 0 _ _ ([] : List S28) 1 0 1 2 0 30 1 0 [(⟨(⟨1, 0⟩ : S26), 1, 2, 0, 30⟩ : S28)] 0 _ ?s1 ?s2 watchmanlaw08_boards.e_c).mono ?_); (case s1 => exact HT.out.rc 2 rfl); (case s2 => exact HT.out.rl 2 rfl); rintro e_ w_31 ⟨v_, rfl, ho, hb⟩; refine ⟨_, rfl, ?_⟩; obtain ⟨A_c, c_c, rfl⟩ := Kd.R_slice ho; replace HT := Aside0.mk (HT.out.pushR ho hb); clear ho hb; have hx0_a := (HT.out.bx 1 rfl 0).trans rfl; have hx1_a := (HT.out.bx 1 rfl 1).trans rfl; have hx2_a := (HT.out.bx 1 rfl 2).trans rfl; have hx3_a := (HT.out.bx 1 rfl 3).trans rfl; have hx4_a := (HT.out.bx 1 rfl 4).trans rfl; have hx5_a := (HT.out.bx 1 rfl 5).trans rfl; have hz_a := (HT.out.far 1 rfl (k := w_25.heap.size) rfl).1) | ((with_reducible refine gate_dst (N := 40) rfl ?_); (try (refine gate_guard (by rfl) ?_; dsimp only)); replace HT := Aside0.mk (HT.out.pushB #[.int .i64 1, .int .i64 0, .slice A_c [(⟨(⟨1, 0⟩ : S26), 1, 2, 0, 30⟩ : S28)].length c_c] 24); replace HT := Aside0.mk (HT.out.pushB #[.int .i64 2, .int .i64 0, .int .i64 1, .int .i64 2, .int .i64 0, .int .i64 30] 28); have az_ (W : World) (o : Obj) : (W.alloc o).heap.size = W.heap.size + 1 := (by exact Array.size_push _); simp only [az_] at HT; clear az_; refine goesL_ (some 40) rfl rfl Try.func15 (by kernel_rfl) rfl #[.agg #[.int .i64 1, .int .i64 0, .slice A_c [(⟨(⟨1, 0⟩ : S26), 1, 2, 0, 30⟩ : S28)].length c_c], .agg #[.int .i64 2, .int .i64 0, .int .i64 1, .int .i64 2, .int .i64 0, .int .i64 30]] rfl (by (try simp only [List.map_toArray, List.map_cons, List.map_nil]); first | done | rfl) ?_; (with_reducible refine (board_Put.calls 100 1 0 _ _ [(⟨(⟨1, 0⟩ : S26), 1, 2, 0, 30⟩ : S28)] 2 0 1 2 0 30 0 0 ([] : List S28) 81 _ ?s1 ?s2 watchmanlaw08_boards.e_h).mono ?_); (case s1 => exact HT.out.rc 2 rfl); (case s2 => exact HT.out.rl 2 rfl); rintro e_ w_40 ⟨v_, rfl, ho, hb⟩; refine ⟨_, rfl, ?_⟩; obtain ⟨A_h, c_h, rfl⟩ := Kd.R_slice ho; replace HT := Aside0.mk (HT.out.pushR ho hb); clear ho hb; have hx0_B_c := (HT.out.bx 2 rfl 0).trans rfl; have hx1_B_c := (HT.out.bx 2 rfl 1).trans rfl; have hx2_B_c := (HT.out.bx 2 rfl 2).trans rfl; have hz_B_c := (HT.out.far 2 rfl (k := w_31.heap.size) rfl).1; have hx0_o := (HT.out.bx 1 rfl 0).trans rfl; have hx1_o := (HT.out.bx 1 rfl 1).trans rfl; have hx2_o := (HT.out.bx 1 rfl 2).trans rfl; have hx3_o := (HT.out.bx 1 rfl 3).trans rfl; have hx4_o := (HT.out.bx 1 rfl 4).trans rfl; have hx5_o := (HT.out.bx 1 rfl 5).trans rfl; have hz_o := (HT.out.far 1 rfl (k := (w_31.heap.size + 1)) rfl).1) | ((with_reducible refine gate_dst (N := 47) rfl ?_); (try (refine gate_guard (by rfl) ?_; dsimp only)); replace HT := Aside0.mk (HT.out.pushB #[.int .i64 0, .int .i64 0, .slice A_h ([] : List S28).length c_h] 24); refine goesL_ (some 47) rfl rfl Try.func17 (by kernel_rfl) rfl #[.agg #[.int .i64 1, .int .i64 0, .slice A_c [(⟨(⟨1, 0⟩ : S26), 1, 2, 0, 30⟩ : S28)].length c_c], .agg #[.int .i64 2, .int .i64 0]] rfl (by (try simp only [List.map_toArray, List.map_cons, List.map_nil]); first | done | rfl) ?_; (with_reducible refine (board_Drop.calls 100 1 0 _ _ [(⟨(⟨1, 0⟩ : S26), 1, 2, 0, 30⟩ : S28)] 2 0 0 0 ([] : List S28) 80 _ ?s1 ?s2 watchmanlaw08_boards.e_i).mono ?_); (case s1 => exact HT.out.rc 4 rfl); (case s2 => exact HT.out.rl 4 rfl); rintro e_ w_47 ⟨v_, rfl, ho, hb⟩; refine ⟨_, rfl, ?_⟩; obtain ⟨A_i, c_i, rfl⟩ := Kd.R_slice ho; replace HT := Aside0.mk (HT.out.pushR ho hb); clear ho hb; have hx0_B_c := (HT.out.bx 4 rfl 0).trans rfl; have hx1_B_c := (HT.out.bx 4 rfl 1).trans rfl; have hx2_B_c := (HT.out.bx 4 rfl 2).trans rfl; have hz_B_c := (HT.out.far 4 rfl (k := w_31.heap.size) rfl).1; have hx0_a := (HT.out.bx 6 rfl 0).trans rfl; have hx1_a := (HT.out.bx 6 rfl 1).trans rfl; have hx2_a := (HT.out.bx 6 rfl 2).trans rfl; have hx3_a := (HT.out.bx 6 rfl 3).trans rfl; have hx4_a := (HT.out.bx 6 rfl 4).trans rfl; have hx5_a := (HT.out.bx 6 rfl 5).trans rfl; have hz_a := (HT.out.far 6 rfl (k := w_25.heap.size) rfl).1) | ((with_reducible refine gate_dst (N := 54) rfl ?_); (try (refine gate_guard (by rfl) ?_; dsimp only)); replace HT := Aside0.mk (HT.out.pushB #[.int .i64 0, .int .i64 0, .slice A_i ([] : List S28).length c_i] 24); refine goesL_ (some 54) rfl rfl Try.func17 (by kernel_rfl) rfl #[.agg #[.int .i64 1, .int .i64 0, .slice A_c [(⟨(⟨1, 0⟩ : S26), 1, 2, 0, 30⟩ : S28)].length c_c], .agg #[.int .i64 1, .int .i64 0]] rfl (by (try simp only [List.map_toArray, List.map_cons, List.map_nil]); first | done | rfl) ?_; (with_reducible refine (board_Drop.calls 100 1 0 _ _ [(⟨(⟨1, 0⟩ : S26), 1, 2, 0, 30⟩ : S28)] 1 0 1 0 ([] : List S28) 0 _ ?s1 ?s2 watchmanlaw08_boards.e_d).mono ?_); (case s1 => exact HT.out.rc 6 rfl); (case s2 => exact HT.out.rl 6 rfl); rintro e_ w_54 ⟨v_, rfl, ho, hb⟩; refine ⟨_, rfl, ?_⟩; obtain ⟨A_d, c_d, rfl⟩ := Kd.R_slice ho; replace HT := Aside0.mk (HT.out.pushR ho hb); clear ho hb; have hx0_B_c := (HT.out.bx 6 rfl 0).trans rfl; have hx1_B_c := (HT.out.bx 6 rfl 1).trans rfl; have hx2_B_c := (HT.out.bx 6 rfl 2).trans rfl; have hz_B_c := (HT.out.far 6 rfl (k := w_31.heap.size) rfl).1) | ((with_reducible refine gate_dst (N := 59) rfl ?_); (try (refine gate_guard (by rfl) ?_; dsimp only)); replace HT := Aside0.mk (HT.out.pushB #[.int .i64 1, .int .i64 0, .slice A_d ([] : List S28).length c_d] 24); refine goesL_ (some 59) rfl rfl Try.func19 (by kernel_rfl) rfl #[.agg #[.int .i64 1, .int .i64 0, .slice A_c [(⟨(⟨1, 0⟩ : S26), 1, 2, 0, 30⟩ : S28)].length c_c], .int .i64 30] rfl (by (try simp only [List.map_toArray, List.map_cons, List.map_nil]); first | done | rfl) ?_; (with_reducible refine (board_Pass.calls 100 1 0 _ _ [(⟨(⟨1, 0⟩ : S26), 1, 2, 0, 30⟩ : S28)] 30 1 30 [(⟨(⟨1, 0⟩ : S26), 2, 2, 0, 30⟩ : S28)] 0 _ ?s1 ?s2 watchmanlaw08_boards.e_x).mono ?_); (case s1 => exact HT.out.rc 8 rfl); (case s2 => exact HT.out.rl 8 rfl); rintro e_ w_59 ⟨v_, rfl, ho, hb⟩; refine ⟨_, rfl, ?_⟩; obtain ⟨A_x, c_x, rfl⟩ := Kd.R_slice ho; replace HT := Aside0.mk (HT.out.pushR ho hb); clear ho hb; have hx0_a := (HT.out.bx 10 rfl 0).trans rfl; have hx1_a := (HT.out.bx 10 rfl 1).trans rfl; have hx2_a := (HT.out.bx 10 rfl 2).trans rfl; have hx3_a := (HT.out.bx 10 rfl 3).trans rfl; have hx4_a := (HT.out.bx 10 rfl 4).trans rfl; have hx5_a := (HT.out.bx 10 rfl 5).trans rfl; have hz_a := (HT.out.far 10 rfl (k := w_25.heap.size) rfl).1) | ((with_reducible refine gate_dst (N := 66) rfl ?_); (try (refine gate_guard (by rfl) ?_; dsimp only)); replace HT := Aside0.mk (HT.out.pushB #[.int .i64 1, .int .i64 30, .slice A_x [(⟨(⟨1, 0⟩ : S26), 2, 2, 0, 30⟩ : S28)].length c_x] 24); refine goesL_ (some 66) rfl rfl Try.func21 (by kernel_rfl) rfl #[.agg #[.int .i64 1, .int .i64 30, .slice A_x [(⟨(⟨1, 0⟩ : S26), 2, 2, 0, 30⟩ : S28)].length c_x], .agg #[.int .i64 1, .int .i64 0]] rfl (by (try simp only [List.map_toArray, List.map_cons, List.map_nil]); first | done | rfl) ?_; (with_reducible refine (board_Get.calls 1 30 _ _ [(⟨(⟨1, 0⟩ : S26), 2, 2, 0, 30⟩ : S28)] 1 0 1 0 2 2 0 30 true _ ?s1 ?s2 watchmanlaw08_boards.e_y).mono ?_); (case s1 => exact HT.out.rc 1 rfl); (case s2 => exact HT.out.rl 1 rfl); rintro e_ w_66 ⟨rfl, hb⟩; refine ⟨_, rfl, ?_⟩; replace HT := Aside0.mk (HT.out.step hb); clear hb; have hx0_B_d := (HT.out.bx 2 rfl 0).trans rfl; have hx1_B_d := (HT.out.bx 2 rfl 1).trans rfl; have hx2_B_d := (HT.out.bx 2 rfl 2).trans rfl; have hz_B_d := (HT.out.far 2 rfl (k := w_54.heap.size) rfl).1; have hx0_B_b := (HT.out.bx 12 rfl 0).trans rfl; have hx1_B_b := (HT.out.bx 12 rfl 1).trans rfl; have hx2_B_b := (HT.out.bx 12 rfl 2).trans rfl; have hz_B_b := (HT.out.far 12 rfl (k := w_20.heap.size) rfl).1) | ((with_reducible refine gate_dst (N := 97) rfl ?_); (try (refine gate_guard (by rfl) ?_; dsimp only)); replace HT := Aside0.mk (HT.out.pushB #[.int .i64 1, .int .i64 0, .int .i64 2, .int .i64 2, .int .i64 0, .int .i64 30] 28); refine goesL_ (some 97) rfl rfl Try.func25 (by kernel_rfl) rfl #[.agg #[.int .i64 1, .int .i64 0, .slice A_d ([] : List S28).length c_d], .agg #[.int .i64 1, .int .i64 0, .slice A_b ([] : List S28).length c_b]] rfl (by (try simp only [List.map_toArray, List.map_cons, List.map_nil]); first | done | rfl) ?_; (with_reducible refine (watchmanref08_Same.calls 100 1 0 _ _ ([] : List S28) 1 0 _ _ ([] : List S28) true _ ?s1 ?s2 ?s3 ?s4 watchmanlaw08_boards.e_same).mono ?_); (case s1 => exact HT.out.rc 4 rfl); (case s2 => exact HT.out.rl 4 rfl); (case s3 => exact HT.out.rc 14 rfl); (case s4 => exact HT.out.rl 14 rfl); rintro e_ w_97 ⟨rfl, hb⟩; refine ⟨_, rfl, ?_⟩; replace HT := Aside0.mk (HT.out.step hb); clear hb; have hx0_B_x := (HT.out.bx 1 rfl 0).trans rfl; have hx1_B_x := (HT.out.bx 1 rfl 1).trans rfl; have hx2_B_x := (HT.out.bx 1 rfl 2).trans rfl; have hz_B_x := (HT.out.far 1 rfl (k := w_59.heap.size) rfl).1; have hx0_y := (HT.out.bx 0 rfl 0).trans rfl; have hx1_y := (HT.out.bx 0 rfl 1).trans rfl; have hx2_y := (HT.out.bx 0 rfl 2).trans rfl; have hx3_y := (HT.out.bx 0 rfl 3).trans rfl; have hx4_y := (HT.out.bx 0 rfl 4).trans rfl; have hx5_y := (HT.out.bx 0 rfl 5).trans rfl; have hz_y := (HT.out.far 0 rfl (k := w_66.heap.size) rfl).1) | ((with_reducible refine gate_dst (N := 119) rfl ?_); (try (refine gate_guard (by rfl) ?_; dsimp only)); refine goesL_ (some 119) rfl rfl Try.func32 (by kernel_rfl) rfl #[.agg #[.int .i64 1, .int .i64 30, .slice A_x [(⟨(⟨1, 0⟩ : S26), 2, 2, 0, 30⟩ : S28)].length c_x]] rfl (by (try simp only [List.map_toArray, List.map_cons, List.map_nil]); first | done | rfl) ?_; (with_reducible refine (board_Is.calls 100 1 30 _ _ [(⟨(⟨1, 0⟩ : S26), 2, 2, 0, 30⟩ : S28)] true _ ?s1 ?s2 watchmanlaw08_boards.e_is).mono ?_); (case s1 => exact HT.out.rc 2 rfl); (case s2 => exact HT.out.rl 2 rfl); rintro e_ w_119 ⟨rfl, hb⟩; refine ⟨_, rfl, ?_⟩; replace HT := Aside0.mk (HT.out.step hb); clear hb; have hx0_B_x := (HT.out.bx 1 rfl 0).trans rfl; have hx1_B_x := (HT.out.bx 1 rfl 1).trans rfl; have hx2_B_x := (HT.out.bx 1 rfl 2).trans rfl; have hz_B_x := (HT.out.far 1 rfl (k := w_59.heap.size) rfl).1) | ((with_reducible refine gate_dst (N := 123) rfl ?_); (try (refine gate_guard (by rfl) ?_; dsimp only)); refine T.lit_event ?hg (N := 123) ?hd (n := 1) (cs := #[.int .i64 1]) (t := 3) ?hr ?_; (case hd => rfl); (case hg => rfl); (case hr => first | (go_simp; done) | (go_simp; rfl)); intro g_l1 hg w_123 hbox hb; replace HT := Aside0.mk (HT.out.pushBe hbox hg hb); clear hb hbox hg; have hx0_B_x := (HT.out.bx 2 rfl 0).trans rfl; have hx1_B_x := (HT.out.bx 2 rfl 1).trans rfl; have hx2_B_x := (HT.out.bx 2 rfl 2).trans rfl; have hz_B_x := (HT.out.far 2 rfl (k := w_59.heap.size) rfl).1) | ((with_reducible refine gate_dst (N := 124) rfl ?_); (try (refine gate_guard (by rfl) ?_; dsimp only)); refine goesL_ (some 124) rfl rfl Try.func26 (by kernel_rfl) rfl #[.agg #[.int .i64 1, .int .i64 30, .slice A_x [(⟨(⟨1, 0⟩ : S26), 2, 2, 0, 30⟩ : S28)].length c_x], .slice (some ⟨g_l1, 0, none⟩) [(1 : Int)].length 1] rfl (by (try simp only [List.map_toArray, List.map_cons, List.map_nil]); first | done | rfl) ?_; (with_reducible refine (board_Of.calls 1 30 _ _ [(⟨(⟨1, 0⟩ : S26), 2, 2, 0, 30⟩ : S28)] _ _ [1] [(⟨(⟨1, 0⟩ : S26), 2, 2, 0, 30⟩ : S28)] _ ?s1 ?s2 ?s3 ?s4 watchmanlaw08_boards.e_of1).mono ?_); (case s1 => exact HT.out.rc 3 rfl); (case s2 => exact HT.out.rl 3 rfl); (case s3 => exact T.C_one (HT.out.get 0 rfl) rfl); (case s4 => exact Nat.le_refl _); rintro e_ w_124 ⟨v_, rfl, ho, hb⟩; refine ⟨_, rfl, ?_⟩; obtain ⟨A_u, c_u, rfl⟩ := Kd.R_slice ho; replace HT := Aside0.mk (HT.out.pushR ho hb); clear ho hb; have hx0_B_x := (HT.out.bx 3 rfl 0).trans rfl; have hx1_B_x := (HT.out.bx 3 rfl 1).trans rfl; have hx2_B_x := (HT.out.bx 3 rfl 2).trans rfl; have hz_B_x := (HT.out.far 3 rfl (k := w_59.heap.size) rfl).1) | ((with_reducible refine gate_dst (N := 130) rfl ?_); (try (refine gate_guard (by rfl) ?_; dsimp only)); refine T.lit_event ?hg (N := 130) ?hd (n := 1) (cs := #[.int .i64 2]) (t := 3) ?hr ?_; (case hd => rfl); (case hg => rfl); (case hr => first | (go_simp; done) | (go_simp; rfl)); intro g_l2 hg w_130 hbox hb; replace HT := Aside0.mk (HT.out.pushBe hbox hg hb); clear hb hbox hg; have hx0_B_x := (HT.out.bx 4 rfl 0).trans rfl; have hx1_B_x := (HT.out.bx 4 rfl 1).trans rfl; have hx2_B_x := (HT.out.bx 4 rfl 2).trans rfl; have hz_B_x := (HT.out.far 4 rfl (k := w_59.heap.size) rfl).1) | ((with_reducible refine gate_dst (N := 131) rfl ?_); (try (refine gate_guard (by rfl) ?_; dsimp only)); refine goesL_ (some 131) rfl rfl Try.func26 (by kernel_rfl) rfl #[.agg #[.int .i64 1, .int .i64 30, .slice A_x [(⟨(⟨1, 0⟩ : S26), 2, 2, 0, 30⟩ : S28)].length c_x], .slice (some ⟨g_l2, 0, none⟩) [(2 : Int)].length 1] rfl (by (try simp only [List.map_toArray, List.map_cons, List.map_nil]); first | done | rfl) ?_; (with_reducible refine (board_Of.calls 1 30 _ _ [(⟨(⟨1, 0⟩ : S26), 2, 2, 0, 30⟩ : S28)] _ _ [2] ([] : List S28) _ ?s1 ?s2 ?s3 ?s4 watchmanlaw08_boards.e_of2).mono ?_); (case s1 => exact HT.out.rc 5 rfl); (case s2 => exact HT.out.rl 5 rfl); (case s3 => exact T.C_one (HT.out.get 0 rfl) rfl); (case s4 => exact Nat.le_refl _); rintro e_ w_131 ⟨v_, rfl, ho, hb⟩; refine ⟨_, rfl, ?_⟩; obtain ⟨A_z, c_z, rfl⟩ := Kd.R_slice ho; replace HT := Aside0.mk (HT.out.pushR ho hb); clear ho hb))
  go_ret
  exact ⟨rfl, HT.out.below⟩

/-! ### watchmanlaw08_BoardDoes: function 3 -/
/-- What the calls answer, one behind the other. -/
def watchmanlaw08_BoardDoes.Goes (k : Nat) (a0_0 a0_1 : Int) (l0_2 : List S28) (a1_0 a1_1 a1_2 a1_3 a1_4 a1_5 : Int) (a2_0 a2_1 : Int) (a3 a4 : Int) (l5 : List Int) : Prop := ∃ own : List S28, watchmanref08_Own.f a0_0 a0_1 l0_2 = some (a0_0, a0_1, own) ∧ ∃ c1 : Int, ∃ c2 : Int, ∃ c3 : List S28, ∃ e : Int, board_Put.f k a0_0 a0_1 l0_2 a1_0 a1_1 a1_2 a1_3 a1_4 a1_5 = some (c1, c2, c3, e) ∧ ∃ d1 : Int, ∃ d2 : Int, ∃ d3 : List S28, watchmanref08_Put.f k a0_0 a0_1 own a1_0 a1_1 a1_2 a1_3 a1_4 a1_5 = some (d1, d2, d3, e) ∧ ∃ g1 : Int, ∃ g2 : Int, ∃ g3 : List S28, ∃ h : Int, board_Drop.f k a0_0 a0_1 l0_2 a2_0 a2_1 = some (g1, g2, g3, h) ∧ ∃ i1 : Int, ∃ i2 : Int, ∃ i3 : List S28, watchmanref08_Drop.f k a0_0 a0_1 own a2_0 a2_1 = some (i1, i2, i3, h) ∧ ∃ k1 : Int, ∃ k2 : Int, ∃ k3 : List S28, ∃ kl : Int, board_Pass.f k a0_0 a0_1 l0_2 a3 = some (k1, k2, k3, kl) ∧ ∃ m1 : Int, ∃ m2 : Int, ∃ m3 : List S28, watchmanref08_Pass.f k a0_0 a0_1 own a3 = some (m1, m2, m3, kl) ∧ ∃ o1 : Int, ∃ o2 : Int, ∃ o3 : Int, ∃ o4 : Int, ∃ o5 : Int, ∃ o6 : Int, ∃ ok : Bool, board_Get.f a0_0 a0_1 l0_2 a2_0 a2_1 = some (o1, o2, o3, o4, o5, o6, ok) ∧ watchmanref08_Get.f k a0_0 a0_1 own a2_0 a2_1 = some (o1, o2, o3, o4, o5, o6, ok) ∧ ∃ q1 : Int, ∃ q2 : Int, ∃ q3 : List S28, ∃ qr : Int, board_New.f a4 = some (q1, q2, q3, qr) ∧ ∃ t1 : Int, ∃ t2 : Int, ∃ t3 : List S28, watchmanref08_New.f a4 = some (t1, t2, t3, qr) ∧ watchmanref08_Same.f k c1 c2 c3 d1 d2 d3 = some true ∧ watchmanref08_Same.f k g1 g2 g3 i1 i2 i3 = some true ∧ watchmanref08_Same.f k k1 k2 k3 m1 m2 m3 = some true ∧ watchmanref08_Same.f k q1 q2 q3 t1 t2 t3 = some true ∧ ∃ v : List S28, board_Of.f a0_0 a0_1 l0_2 l5 = some v ∧ ∃ bd : List Int, watchmanref01_Own.f l5 = some bd ∧ ∃ x : List S28, watchmanref08_Of.f k a0_0 a0_1 own bd = some x ∧ watchmanref07_Same.f k v x = some true ∧ ∃ z1 : List S28, watchmanlaw08_smudge.f k c3 = some z1 ∧ ∃ z2 : List S28, watchmanlaw08_smudge.f k g3 = some z2 ∧ ∃ z3 : List S28, watchmanlaw08_smudge.f k k3 = some z3 ∧ ∃ z4 : List S28, watchmanlaw08_smudge.f k v = some z4 ∧ ∃ p : Bool, board_Is.f k a0_0 a0_1 l0_2 = some p ∧ watchmanref08_Is.f k a0_0 a0_1 own = some p ∧ watchmanref08_Same.f k a0_0 a0_1 l0_2 a0_0 a0_1 own = some true
def watchmanlaw08_BoardDoes.T16 : Bool × List (List Nat × List Nat) := (true, [([], []), ([0], [0]), ([1], [1]), ([1], [1]), ([1], [1]), ([4, 1, 1], [1, 4]), ([3, 5, 5, 1], [1, 3, 5]), ([2, 6, 6, 1], [1, 2, 6]), ([1, 7], [1, 7]), ([8, 7, 0, 1, 2, 3, 4, 5, 6, 7, 8], [0, 8])])
def watchmanlaw08_BoardDoes.B16 : List Nat := [0, 1, 3, 3, 3, 19, 59, 127, 255, 511]
theorem watchmanlaw08_BoardDoes.tab16 : rtab .any (opsOf Try.f3 16) = watchmanlaw08_BoardDoes.T16 := by kernel_rfl
theorem watchmanlaw08_BoardDoes.bits16 : waitsOk watchmanlaw08_BoardDoes.T16.2 watchmanlaw08_BoardDoes.B16 = true := by kernel_rfl
def watchmanlaw08_BoardDoes.T21 : Bool × List (List Nat × List Nat) := (true, [([], []), ([0, 0], [0]), ([1], [1]), ([1, 2], [1, 2]), ([3, 1], [3]), ([4], [4]), ([5, 4, 4], [4, 5]), ([4], [4]), ([7, 6, 4], [4, 7]), ([6, 8, 4], [4, 6, 8]), ([4, 9], [4, 9]), ([10, 8], [10]), ([11], [11]), ([11], [11]), ([12, 13, 11, 11], [11, 12, 13]), ([11, 14], [11, 14]), ([15, 14, 0, 1, 2, 3, 4, 5, 6, 7, 8, 9, 10, 11, 12, 13, 14, 15], [15])])
def watchmanlaw08_BoardDoes.B21 : List Nat := [0, 1, 3, 7, 15, 31, 63, 31, 255, 511, 1023, 2047, 4095, 4095, 16383, 32767, 65535]
theorem watchmanlaw08_BoardDoes.tab21 : rtab .any (opsOf Try.f3 21) = watchmanlaw08_BoardDoes.T21 := by kernel_rfl
theorem watchmanlaw08_BoardDoes.bits21 : waitsOk watchmanlaw08_BoardDoes.T21.2 watchmanlaw08_BoardDoes.B21 = true := by kernel_rfl
set_option maxHeartbeats 8000000 in
set_option maxRecDepth 100000 in
theorem watchmanlaw08_BoardDoes.main (k : Nat) (a0_0 a0_1 : Int) (A0_2 : Option Addr) (c0_2 : Nat) (l0_2 : List S28) (a1_0 a1_1 a1_2 a1_3 a1_4 a1_5 : Int) (a2_0 a2_1 : Int) (a3 a4 : Int) (A5 : Option Addr) (c5 : Nat) (l5 : List Int) (w : World) (hr0_2 : Kd.C k28 w A0_2 l0_2.length l0_2) (hc0_2 : l0_2.length ≤ c0_2) (hr5 : Kd.C (Kd.int .i64) w A5 l5.length l5) (hc5 : l5.length ≤ c5) (F0 : watchmanlaw08_far.f a0_0 a0_1 l0_2 = some false) (hl : decide ((l5.length : Int) > 60) = false) (h : watchmanlaw08_BoardDoes.Goes k a0_0 a0_1 l0_2 a1_0 a1_1 a1_2 a1_3 a1_4 a1_5 a2_0 a2_1 a3 a4 l5) :
    Calls Try.prog 3 #[.agg #[.int .i64 a0_0, .int .i64 a0_1, .slice A0_2 l0_2.length c0_2], .agg #[.int .i64 a1_0, .int .i64 a1_1, .int .i64 a1_2, .int .i64 a1_3, .int .i64 a1_4, .int .i64 a1_5], .agg #[.int .i64 a2_0, .int .i64 a2_1], .int .i64 a3, .int .i64 a4, .slice A5 l5.length c5] w fun e w' => e = .returned (.bool true) ∧ Below w.heap.size w w' := by
  have hu0 := Try.underlying24
  have hu1 := Try.underlying28
  have hu2 := Try.underlying26
  have HR0 := Aside0.mk hr0_2
  have HC0 := Aside0.mk hc0_2
  have HR5 := Aside0.mk hr5
  have HC5 := Aside0.mk hc5
  clear hr0_2 hc0_2 hr5 hc5
  have HT := Aside0.mk (T.Tell.init w)
  replace F0 := Aside0.mk F0
  obtain ⟨own, E0, c1, c2, c3, e, E1, d1, d2, d3, E2, g1, g2, g3, h, E3, i1, i2, i3, E4, k1, k2, k3, kl, E5, m1, m2, m3, E6, o1, o2, o3, o4, o5, o6, ok, E7, E8, q1, q2, q3, qr, E9, t1, t2, t3, E10, E11, E12, E13, E14, v, E15, bd, E16, x, E17, E18, z1, E19, z2, E20, z3, E21, z4, E22, p, E23, E24, E25⟩ := h
  replace E0 := Aside0.mk E0
  replace E1 := Aside0.mk E1
  replace E2 := Aside0.mk E2
  replace E3 := Aside0.mk E3
  replace E4 := Aside0.mk E4
  replace E5 := Aside0.mk E5
  replace E6 := Aside0.mk E6
  replace E7 := Aside0.mk E7
  replace E8 := Aside0.mk E8
  replace E9 := Aside0.mk E9
  replace E10 := Aside0.mk E10
  replace E11 := Aside0.mk E11
  replace E12 := Aside0.mk E12
  replace E13 := Aside0.mk E13
  replace E14 := Aside0.mk E14
  replace E15 := Aside0.mk E15
  replace E16 := Aside0.mk E16
  replace E17 := Aside0.mk E17
  replace E18 := Aside0.mk E18
  replace E19 := Aside0.mk E19
  replace E20 := Aside0.mk E20
  replace E21 := Aside0.mk E21
  replace E22 := Aside0.mk E22
  replace E23 := Aside0.mk E23
  replace E24 := Aside0.mk E24
  replace E25 := Aside0.mk E25
  go_enter Try.func3, Try.ntmps3
  go_wp2_with (first | ((with_reducible refine gate_dst (N := 6) rfl ?_); refine box_event ?hg (N := 6) ?hd (cs := #[.int .i64 a0_0, .int .i64 a0_1, .slice A0_2 l0_2.length c0_2]) (t := 24) ?hr ?_; (case hd => rfl); (case hg => rfl); (case hr => first | (go_simp; done) | (go_simp; rfl)); intro g_b hg w_6 hbox hb; replace HT := Aside0.mk (HT.out.pushBe hbox hg hb); clear hb hbox hg) | ((with_reducible refine gate_dst (N := 7) rfl ?_); refine box_event ?hg (N := 7) ?hd (cs := #[.int .i64 a1_0, .int .i64 a1_1, .int .i64 a1_2, .int .i64 a1_3, .int .i64 a1_4, .int .i64 a1_5]) (t := 28) ?hr ?_; (case hd => rfl); (case hg => rfl); (case hr => first | (go_simp; done) | (go_simp; rfl)); intro g_a hg w_7 hbox hb; replace HT := Aside0.mk (HT.out.pushBe hbox hg hb); clear hb hbox hg) | ((with_reducible refine gate_dst (N := 8) rfl ?_); refine box_event ?hg (N := 8) ?hd (cs := #[.int .i64 a2_0, .int .i64 a2_1]) (t := 26) ?hr ?_; (case hd => rfl); (case hg => rfl); (case hr => first | (go_simp; done) | (go_simp; rfl)); intro g_s hg w_8 hbox hb; replace HT := Aside0.mk (HT.out.pushBe hbox hg hb); clear hb hbox hg; have hx0_b := (HT.out.bx 2 rfl 0).trans rfl; have hx1_b := (HT.out.bx 2 rfl 1).trans rfl; have hx2_b := (HT.out.bx 2 rfl 2).trans rfl; have hz_b := (HT.out.far 2 rfl (k := g_b) rfl).1) | ((with_reducible refine gate_dst (N := 37) rfl ?_); (try (refine gate_guard (by rfl) ?_; dsimp only)); refine goesL_ (some 37) rfl rfl Try.func13 (by kernel_rfl) rfl #[.agg #[.int .i64 a0_0, .int .i64 a0_1, .slice A0_2 l0_2.length c0_2]] rfl (by (try simp only [List.map_toArray, List.map_cons, List.map_nil]); first | done | rfl) ?_; (with_reducible refine (watchmanlaw08_far.calls a0_0 a0_1 _ _ l0_2 _ _ ?s1 ?s2 F0.out).mono ?_); (case s1 => exact Kd.C_below HR0.out HT.out.below); (case s2 => exact HC0.out); rintro e_ w_37 ⟨rfl, hb⟩; refine ⟨_, rfl, ?_⟩; replace HT := Aside0.mk (HT.out.step hb); clear hb; have hx0_b := (HT.out.bx 2 rfl 0).trans rfl; have hx1_b := (HT.out.bx 2 rfl 1).trans rfl; have hx2_b := (HT.out.bx 2 rfl 2).trans rfl; have hz_b := (HT.out.far 2 rfl (k := g_b) rfl).1) | ((with_reducible refine gate_dst (N := 44) rfl ?_); (try (refine gate_guard (by rfl) ?_; dsimp only)); refine goesL_ (some 44) rfl rfl Try.func14 (by kernel_rfl) rfl #[.agg #[.int .i64 a0_0, .int .i64 a0_1, .slice A0_2 l0_2.length c0_2]] rfl (by (try simp only [List.map_toArray, List.map_cons, List.map_nil]); first | done | rfl) ?_; (with_reducible refine (watchmanref08_Own.calls a0_0 a0_1 _ _ l0_2 a0_0 a0_1 own _ ?s1 ?s2 E0.out).mono ?_); (case s1 => exact Kd.C_below HR0.out HT.out.below); (case s2 => exact HC0.out); rintro e_ w_44 ⟨v_, rfl, ho, hb⟩; refine ⟨_, rfl, ?_⟩; obtain ⟨A_own, c_own, rfl⟩ := Kd.R_slice ho; replace HT := Aside0.mk (HT.out.pushR ho hb); clear ho hb; have hx0_b := (HT.out.bx 3 rfl 0).trans rfl; have hx1_b := (HT.out.bx 3 rfl 1).trans rfl; have hx2_b := (HT.out.bx 3 rfl 2).trans rfl; have hz_b := (HT.out.far 3 rfl (k := g_b) rfl).1; have hx0_a := (HT.out.bx 2 rfl 0).trans rfl; have hx1_a := (HT.out.bx 2 rfl 1).trans rfl; have hx2_a := (HT.out.bx 2 rfl 2).trans rfl; have hx3_a := (HT.out.bx 2 rfl 3).trans rfl; have hx4_a := (HT.out.bx 2 rfl 4).trans rfl; have hx5_a := (HT.out.bx 2 rfl 5).trans rfl; have hz_a := (HT.out.far 2 rfl (k := g_a) rfl).1) | ((with_reducible refine gate_dst (N := 48) rfl ?_); (try (refine gate_guard (by rfl) ?_; dsimp only)); replace HT := Aside0.mk (HT.out.pushB #[.int .i64 a0_0, .int .i64 a0_1, .slice A_own own.length c_own] 24); refine goesL_ (some 48) rfl rfl Try.func15 (by kernel_rfl) rfl #[.agg #[.int .i64 a0_0, .int .i64 a0_1, .slice A0_2 l0_2.length c0_2], .agg #[.int .i64 a1_0, .int .i64 a1_1, .int .i64 a1_2, .int .i64 a1_3, .int .i64 a1_4, .int .i64 a1_5]] rfl (by (try simp only [List.map_toArray, List.map_cons, List.map_nil]); first | done | rfl) ?_; (with_reducible refine (board_Put.calls k a0_0 a0_1 _ _ l0_2 a1_0 a1_1 a1_2 a1_3 a1_4 a1_5 c1 c2 c3 e _ ?s1 ?s2 E1.out).mono ?_); (case s1 => exact Kd.C_below HR0.out HT.out.below); (case s2 => exact HC0.out); rintro e_ w_48 ⟨v_, rfl, ho, hb⟩; refine ⟨_, rfl, ?_⟩; obtain ⟨A_c3, c_c3, rfl⟩ := Kd.R_slice ho; replace HT := Aside0.mk (HT.out.pushR ho hb); clear ho hb; have hx0_B_own := (HT.out.bx 1 rfl 0).trans rfl; have hx1_B_own := (HT.out.bx 1 rfl 1).trans rfl; have hx2_B_own := (HT.out.bx 1 rfl 2).trans rfl; have hz_B_own := (HT.out.far 1 rfl (k := w_44.heap.size) rfl).1; have hx0_a := (HT.out.bx 4 rfl 0).trans rfl; have hx1_a := (HT.out.bx 4 rfl 1).trans rfl; have hx2_a := (HT.out.bx 4 rfl 2).trans rfl; have hx3_a := (HT.out.bx 4 rfl 3).trans rfl; have hx4_a := (HT.out.bx 4 rfl 4).trans rfl; have hx5_a := (HT.out.bx 4 rfl 5).trans rfl; have hz_a := (HT.out.far 4 rfl (k := g_a) rfl).1) | ((with_reducible refine gate_dst (N := 54) rfl ?_); (try (refine gate_guard (by rfl) ?_; dsimp only)); replace HT := Aside0.mk (HT.out.pushB #[.int .i64 c1, .int .i64 c2, .slice A_c3 c3.length c_c3] 24); refine goesL_ (some 54) rfl rfl Try.func16 (by kernel_rfl) rfl #[.agg #[.int .i64 a0_0, .int .i64 a0_1, .slice A_own own.length c_own], .agg #[.int .i64 a1_0, .int .i64 a1_1, .int .i64 a1_2, .int .i64 a1_3, .int .i64 a1_4, .int .i64 a1_5]] rfl (by (try simp only [List.map_toArray, List.map_cons, List.map_nil]); first | done | rfl) ?_; (with_reducible refine (watchmanref08_Put.calls k a0_0 a0_1 _ _ own a1_0 a1_1 a1_2 a1_3 a1_4 a1_5 d1 d2 d3 e _ ?s1 ?s2 E2.out).mono ?_); (case s1 => exact HT.out.rc 3 rfl); (case s2 => exact HT.out.rl 3 rfl); rintro e_ w_54 ⟨v_, rfl, ho, hb⟩; refine ⟨_, rfl, ?_⟩; obtain ⟨A_d3, c_d3, rfl⟩ := Kd.R_slice ho; replace HT := Aside0.mk (HT.out.pushR ho hb); clear ho hb; have hx0_b := (HT.out.bx 7 rfl 0).trans rfl; have hx1_b := (HT.out.bx 7 rfl 1).trans rfl; have hx2_b := (HT.out.bx 7 rfl 2).trans rfl; have hz_b := (HT.out.far 7 rfl (k := g_b) rfl).1; have hx0_s := (HT.out.bx 5 rfl 0).trans rfl; have hx1_s := (HT.out.bx 5 rfl 1).trans rfl; have hz_s := (HT.out.far 5 rfl (k := g_s) rfl).1) | ((with_reducible refine gate_dst (N := 60) rfl ?_); (try (refine gate_guard (by rfl) ?_; dsimp only)); replace HT := Aside0.mk (HT.out.pushB #[.int .i64 d1, .int .i64 d2, .slice A_d3 d3.length c_d3] 24); refine goesL_ (some 60) rfl rfl Try.func17 (by kernel_rfl) rfl #[.agg #[.int .i64 a0_0, .int .i64 a0_1, .slice A0_2 l0_2.length c0_2], .agg #[.int .i64 a2_0, .int .i64 a2_1]] rfl (by (try simp only [List.map_toArray, List.map_cons, List.map_nil]); first | done | rfl) ?_; (with_reducible refine (board_Drop.calls k a0_0 a0_1 _ _ l0_2 a2_0 a2_1 g1 g2 g3 h _ ?s1 ?s2 E3.out).mono ?_); (case s1 => exact Kd.C_below HR0.out HT.out.below); (case s2 => exact HC0.out); rintro e_ w_60 ⟨v_, rfl, ho, hb⟩; refine ⟨_, rfl, ?_⟩; obtain ⟨A_g3, c_g3, rfl⟩ := Kd.R_slice ho; replace HT := Aside0.mk (HT.out.pushR ho hb); clear ho hb; have hx0_B_own := (HT.out.bx 5 rfl 0).trans rfl; have hx1_B_own := (HT.out.bx 5 rfl 1).trans rfl; have hx2_B_own := (HT.out.bx 5 rfl 2).trans rfl; have hz_B_own := (HT.out.far 5 rfl (k := w_44.heap.size) rfl).1; have hx0_s := (HT.out.bx 7 rfl 0).trans rfl; have hx1_s := (HT.out.bx 7 rfl 1).trans rfl; have hz_s := (HT.out.far 7 rfl (k := g_s) rfl).1) | ((with_reducible refine gate_dst (N := 66) rfl ?_); (try (refine gate_guard (by rfl) ?_; dsimp only)); replace HT := Aside0.mk (HT.out.pushB #[.int .i64 g1, .int .i64 g2, .slice A_g3 g3.length c_g3] 24); refine goesL_ (some 66) rfl rfl Try.func18 (by kernel_rfl) rfl #[.agg #[.int .i64 a0_0, .int .i64 a0_1, .slice A_own own.length c_own], .agg #[.int .i64 a2_0, .int .i64 a2_1]] rfl (by (try simp only [List.map_toArray, List.map_cons, List.map_nil]); first | done | rfl) ?_; (with_reducible refine (watchmanref08_Drop.calls k a0_0 a0_1 _ _ own a2_0 a2_1 i1 i2 i3 h _ ?s1 ?s2 E4.out).mono ?_); (case s1 => exact HT.out.rc 7 rfl); (case s2 => exact HT.out.rl 7 rfl); rintro e_ w_66 ⟨v_, rfl, ho, hb⟩; refine ⟨_, rfl, ?_⟩; obtain ⟨A_i3, c_i3, rfl⟩ := Kd.R_slice ho; replace HT := Aside0.mk (HT.out.pushR ho hb); clear ho hb; have hx0_b := (HT.out.bx 11 rfl 0).trans rfl; have hx1_b := (HT.out.bx 11 rfl 1).trans rfl; have hx2_b := (HT.out.bx 11 rfl 2).trans rfl; have hz_b := (HT.out.far 11 rfl (k := g_b) rfl).1) | ((with_reducible refine gate_dst (N := 72) rfl ?_); (try (refine gate_guard (by rfl) ?_; dsimp only)); replace HT := Aside0.mk (HT.out.pushB #[.int .i64 i1, .int .i64 i2, .slice A_i3 i3.length c_i3] 24); refine goesL_ (some 72) rfl rfl Try.func19 (by kernel_rfl) rfl #[.agg #[.int .i64 a0_0, .int .i64 a0_1, .slice A0_2 l0_2.length c0_2], .int .i64 a3] rfl (by (try simp only [List.map_toArray, List.map_cons, List.map_nil]); first | done | rfl) ?_; (with_reducible refine (board_Pass.calls k a0_0 a0_1 _ _ l0_2 a3 k1 k2 k3 kl _ ?s1 ?s2 E5.out).mono ?_); (case s1 => exact Kd.C_below HR0.out HT.out.below); (case s2 => exact HC0.out); rintro e_ w_72 ⟨v_, rfl, ho, hb⟩; refine ⟨_, rfl, ?_⟩; obtain ⟨A_k3, c_k3, rfl⟩ := Kd.R_slice ho; replace HT := Aside0.mk (HT.out.pushR ho hb); clear ho hb; have hx0_B_own := (HT.out.bx 9 rfl 0).trans rfl; have hx1_B_own := (HT.out.bx 9 rfl 1).trans rfl; have hx2_B_own := (HT.out.bx 9 rfl 2).trans rfl; have hz_B_own := (HT.out.far 9 rfl (k := w_44.heap.size) rfl).1) | ((with_reducible refine gate_dst (N := 78) rfl ?_); (try (refine gate_guard (by rfl) ?_; dsimp only)); replace HT := Aside0.mk (HT.out.pushB #[.int .i64 k1, .int .i64 k2, .slice A_k3 k3.length c_k3] 24); refine goesL_ (some 78) rfl rfl Try.func20 (by kernel_rfl) rfl #[.agg #[.int .i64 a0_0, .int .i64 a0_1, .slice A_own own.length c_own], .int .i64 a3] rfl (by (try simp only [List.map_toArray, List.map_cons, List.map_nil]); first | done | rfl) ?_; (with_reducible refine (watchmanref08_Pass.calls k a0_0 a0_1 _ _ own a3 m1 m2 m3 kl _ ?s1 ?s2 E6.out).mono ?_); (case s1 => exact HT.out.rc 11 rfl); (case s2 => exact HT.out.rl 11 rfl); rintro e_ w_78 ⟨v_, rfl, ho, hb⟩; refine ⟨_, rfl, ?_⟩; obtain ⟨A_m3, c_m3, rfl⟩ := Kd.R_slice ho; replace HT := Aside0.mk (HT.out.pushR ho hb); clear ho hb; have hx0_b := (HT.out.bx 15 rfl 0).trans rfl; have hx1_b := (HT.out.bx 15 rfl 1).trans rfl; have hx2_b := (HT.out.bx 15 rfl 2).trans rfl; have hz_b := (HT.out.far 15 rfl (k := g_b) rfl).1; have hx0_s := (HT.out.bx 13 rfl 0).trans rfl; have hx1_s := (HT.out.bx 13 rfl 1).trans rfl; have hz_s := (HT.out.far 13 rfl (k := g_s) rfl).1) | ((with_reducible refine gate_dst (N := 84) rfl ?_); (try (refine gate_guard (by rfl) ?_; dsimp only)); replace HT := Aside0.mk (HT.out.pushB #[.int .i64 m1, .int .i64 m2, .slice A_m3 m3.length c_m3] 24); refine goesL_ (some 84) rfl rfl Try.func21 (by kernel_rfl) rfl #[.agg #[.int .i64 a0_0, .int .i64 a0_1, .slice A0_2 l0_2.length c0_2], .agg #[.int .i64 a2_0, .int .i64 a2_1]] rfl (by (try simp only [List.map_toArray, List.map_cons, List.map_nil]); first | done | rfl) ?_; (with_reducible refine (board_Get.calls a0_0 a0_1 _ _ l0_2 a2_0 a2_1 o1 o2 o3 o4 o5 o6 ok _ ?s1 ?s2 E7.out).mono ?_); (case s1 => exact Kd.C_below HR0.out HT.out.below); (case s2 => exact HC0.out); rintro e_ w_84 ⟨rfl, hb⟩; refine ⟨_, rfl, ?_⟩; replace HT := Aside0.mk (HT.out.step hb); clear hb; have hx0_B_own := (HT.out.bx 12 rfl 0).trans rfl; have hx1_B_own := (HT.out.bx 12 rfl 1).trans rfl; have hx2_B_own := (HT.out.bx 12 rfl 2).trans rfl; have hz_B_own := (HT.out.far 12 rfl (k := w_44.heap.size) rfl).1; have hx0_s := (HT.out.bx 14 rfl 0).trans rfl; have hx1_s := (HT.out.bx 14 rfl 1).trans rfl; have hz_s := (HT.out.far 14 rfl (k := g_s) rfl).1) | ((with_reducible refine gate_dst (N := 90) rfl ?_); (try (refine gate_guard (by rfl) ?_; dsimp only)); replace HT := Aside0.mk (HT.out.pushB #[.int .i64 o1, .int .i64 o2, .int .i64 o3, .int .i64 o4, .int .i64 o5, .int .i64 o6] 28); refine goesL_ (some 90) rfl rfl Try.func22 (by kernel_rfl) rfl #[.agg #[.int .i64 a0_0, .int .i64 a0_1, .slice A_own own.length c_own], .agg #[.int .i64 a2_0, .int .i64 a2_1]] rfl (by (try simp only [List.map_toArray, List.map_cons, List.map_nil]); first | done | rfl) ?_; (with_reducible refine (watchmanref08_Get.calls k a0_0 a0_1 _ _ own a2_0 a2_1 o1 o2 o3 o4 o5 o6 ok _ ?s1 ?s2 E8.out).mono ?_); (case s1 => exact HT.out.rc 14 rfl); (case s2 => exact HT.out.rl 14 rfl); rintro e_ w_90 ⟨rfl, hb⟩; refine ⟨_, rfl, ?_⟩; replace HT := Aside0.mk (HT.out.step hb); clear hb) | ((with_reducible refine gate_dst (N := 95) rfl ?_); (try (refine gate_guard (by rfl) ?_; dsimp only)); replace HT := Aside0.mk (HT.out.pushB #[.int .i64 o1, .int .i64 o2, .int .i64 o3, .int .i64 o4, .int .i64 o5, .int .i64 o6] 28); refine goesL_ (some 95) rfl rfl Try.func23 (by kernel_rfl) rfl #[.int .i64 a4] rfl (by (try simp only [List.map_toArray, List.map_cons, List.map_nil]); first | done | rfl) ?_; (with_reducible refine (board_New.calls a4 q1 q2 q3 qr _ E9.out).mono ?_); rintro e_ w_95 ⟨v_, rfl, ho, hb⟩; refine ⟨_, rfl, ?_⟩; obtain ⟨A_q3, c_q3, rfl⟩ := Kd.R_slice ho; replace HT := Aside0.mk (HT.out.pushR ho hb); clear ho hb) | ((with_reducible refine gate_dst (N := 100) rfl ?_); (try (refine gate_guard (by rfl) ?_; dsimp only)); replace HT := Aside0.mk (HT.out.pushB #[.int .i64 q1, .int .i64 q2, .slice A_q3 q3.length c_q3] 24); refine goesL_ (some 100) rfl rfl Try.func24 (by kernel_rfl) rfl #[.int .i64 a4] rfl (by (try simp only [List.map_toArray, List.map_cons, List.map_nil]); first | done | rfl) ?_; (with_reducible refine (watchmanref08_New.calls a4 t1 t2 t3 qr _ E10.out).mono ?_); rintro e_ w_100 ⟨v_, rfl, ho, hb⟩; refine ⟨_, rfl, ?_⟩; obtain ⟨A_t3, c_t3, rfl⟩ := Kd.R_slice ho; replace HT := Aside0.mk (HT.out.pushR ho hb); clear ho hb; have hx0_B_c := (HT.out.bx 15 rfl 0).trans rfl; have hx1_B_c := (HT.out.bx 15 rfl 1).trans rfl; have hx2_B_c := (HT.out.bx 15 rfl 2).trans rfl; have hz_B_c := (HT.out.far 15 rfl (k := w_48.heap.size) rfl).1; have hx0_B_d := (HT.out.bx 13 rfl 0).trans rfl; have hx1_B_d := (HT.out.bx 13 rfl 1).trans rfl; have hx2_B_d := (HT.out.bx 13 rfl 2).trans rfl; have hz_B_d := (HT.out.far 13 rfl (k := w_54.heap.size) rfl).1) | ((with_reducible refine gate_dst (N := 105) rfl ?_); (try (refine gate_guard (by rfl) ?_; dsimp only)); replace HT := Aside0.mk (HT.out.pushB #[.int .i64 t1, .int .i64 t2, .slice A_t3 t3.length c_t3] 24); refine goesL_ (some 105) rfl rfl Try.func25 (by kernel_rfl) rfl #[.agg #[.int .i64 c1, .int .i64 c2, .slice A_c3 c3.length c_c3], .agg #[.int .i64 d1, .int .i64 d2, .slice A_d3 d3.length c_d3]] rfl (by (try simp only [List.map_toArray, List.map_cons, List.map_nil]); first | done | rfl) ?_; (with_reducible refine (watchmanref08_Same.calls k c1 c2 _ _ c3 d1 d2 _ _ d3 _ _ ?s1 ?s2 ?s3 ?s4 E11.out).mono ?_); (case s1 => exact HT.out.rc 17 rfl); (case s2 => exact HT.out.rl 17 rfl); (case s3 => exact HT.out.rc 15 rfl); (case s4 => exact HT.out.rl 15 rfl); rintro e_ w_105 ⟨rfl, hb⟩; refine ⟨_, rfl, ?_⟩; replace HT := Aside0.mk (HT.out.step hb); clear hb; have hx0_B_g := (HT.out.bx 12 rfl 0).trans rfl; have hx1_B_g := (HT.out.bx 12 rfl 1).trans rfl; have hx2_B_g := (HT.out.bx 12 rfl 2).trans rfl; have hz_B_g := (HT.out.far 12 rfl (k := w_60.heap.size) rfl).1; have hx0_B_i := (HT.out.bx 10 rfl 0).trans rfl; have hx1_B_i := (HT.out.bx 10 rfl 1).trans rfl; have hx2_B_i := (HT.out.bx 10 rfl 2).trans rfl; have hz_B_i := (HT.out.far 10 rfl (k := w_66.heap.size) rfl).1) | ((with_reducible refine gate_dst (N := 114) rfl ?_); (try (refine gate_guard (by rfl) ?_; dsimp only)); refine goesL_ (some 114) rfl rfl Try.func25 (by kernel_rfl) rfl #[.agg #[.int .i64 g1, .int .i64 g2, .slice A_g3 g3.length c_g3], .agg #[.int .i64 i1, .int .i64 i2, .slice A_i3 i3.length c_i3]] rfl (by (try simp only [List.map_toArray, List.map_cons, List.map_nil]); first | done | rfl) ?_; (with_reducible refine (watchmanref08_Same.calls k g1 g2 _ _ g3 i1 i2 _ _ i3 _ _ ?s1 ?s2 ?s3 ?s4 E12.out).mono ?_); (case s1 => exact HT.out.rc 13 rfl); (case s2 => exact HT.out.rl 13 rfl); (case s3 => exact HT.out.rc 11 rfl); (case s4 => exact HT.out.rl 11 rfl); rintro e_ w_114 ⟨rfl, hb⟩; refine ⟨_, rfl, ?_⟩; replace HT := Aside0.mk (HT.out.step hb); clear hb; have hx0_B_k := (HT.out.bx 8 rfl 0).trans rfl; have hx1_B_k := (HT.out.bx 8 rfl 1).trans rfl; have hx2_B_k := (HT.out.bx 8 rfl 2).trans rfl; have hz_B_k := (HT.out.far 8 rfl (k := w_72.heap.size) rfl).1; have hx0_B_m := (HT.out.bx 6 rfl 0).trans rfl; have hx1_B_m := (HT.out.bx 6 rfl 1).trans rfl; have hx2_B_m := (HT.out.bx 6 rfl 2).trans rfl; have hz_B_m := (HT.out.far 6 rfl (k := w_78.heap.size) rfl).1) | ((with_reducible refine gate_dst (N := 124) rfl ?_); (try (refine gate_guard (by rfl) ?_; dsimp only)); refine goesL_ (some 124) rfl rfl Try.func25 (by kernel_rfl) rfl #[.agg #[.int .i64 k1, .int .i64 k2, .slice A_k3 k3.length c_k3], .agg #[.int .i64 m1, .int .i64 m2, .slice A_m3 m3.length c_m3]] rfl (by (try simp only [List.map_toArray, List.map_cons, List.map_nil]); first | done | rfl) ?_; (with_reducible refine (watchmanref08_Same.calls k k1 k2 _ _ k3 m1 m2 _ _ m3 _ _ ?s1 ?s2 ?s3 ?s4 E13.out).mono ?_); (case s1 => exact HT.out.rc 9 rfl); (case s2 => exact HT.out.rl 9 rfl); (case s3 => exact HT.out.rc 7 rfl); (case s4 => exact HT.out.rl 7 rfl); rintro e_ w_124 ⟨rfl, hb⟩; refine ⟨_, rfl, ?_⟩; replace HT := Aside0.mk (HT.out.step hb); clear hb; have hx0_B_o := (HT.out.bx 5 rfl 0).trans rfl; have hx1_B_o := (HT.out.bx 5 rfl 1).trans rfl; have hx2_B_o := (HT.out.bx 5 rfl 2).trans rfl; have hx3_B_o := (HT.out.bx 5 rfl 3).trans rfl; have hx4_B_o := (HT.out.bx 5 rfl 4).trans rfl; have hx5_B_o := (HT.out.bx 5 rfl 5).trans rfl; have hz_B_o := (HT.out.far 5 rfl (k := w_84.heap.size) rfl).1; have hx0_B_p := (HT.out.bx 4 rfl 0).trans rfl; have hx1_B_p := (HT.out.bx 4 rfl 1).trans rfl; have hx2_B_p := (HT.out.bx 4 rfl 2).trans rfl; have hx3_B_p := (HT.out.bx 4 rfl 3).trans rfl; have hx4_B_p := (HT.out.bx 4 rfl 4).trans rfl; have hx5_B_p := (HT.out.bx 4 rfl 5).trans rfl; have hz_B_p := (HT.out.far 4 rfl (k := w_90.heap.size) rfl).1; have hx0_B_q := (HT.out.bx 2 rfl 0).trans rfl; have hx1_B_q := (HT.out.bx 2 rfl 1).trans rfl; have hx2_B_q := (HT.out.bx 2 rfl 2).trans rfl; have hz_B_q := (HT.out.far 2 rfl (k := w_95.heap.size) rfl).1; have hx0_B_t := (HT.out.bx 0 rfl 0).trans rfl; have hx1_B_t := (HT.out.bx 0 rfl 1).trans rfl; have hx2_B_t := (HT.out.bx 0 rfl 2).trans rfl; have hz_B_t := (HT.out.far 0 rfl (k := w_100.heap.size) rfl).1) | ((with_reducible refine gate_dst (N := 144) rfl ?_); (try (refine gate_guard (by rfl) ?_; dsimp only)); refine goesL_ (some 144) rfl rfl Try.func25 (by kernel_rfl) rfl #[.agg #[.int .i64 q1, .int .i64 q2, .slice A_q3 q3.length c_q3], .agg #[.int .i64 t1, .int .i64 t2, .slice A_t3 t3.length c_t3]] rfl (by (try simp only [List.map_toArray, List.map_cons, List.map_nil]); first | done | rfl) ?_; (with_reducible refine (watchmanref08_Same.calls k q1 q2 _ _ q3 t1 t2 _ _ t3 _ _ ?s1 ?s2 ?s3 ?s4 E14.out).mono ?_); (case s1 => exact HT.out.rc 3 rfl); (case s2 => exact HT.out.rl 3 rfl); (case s3 => exact HT.out.rc 1 rfl); (case s4 => exact HT.out.rl 1 rfl); rintro e_ w_144 ⟨rfl, hb⟩; refine ⟨_, rfl, ?_⟩; replace HT := Aside0.mk (HT.out.step hb); clear hb; have hx0_b := (HT.out.bx 22 rfl 0).trans rfl; have hx1_b := (HT.out.bx 22 rfl 1).trans rfl; have hx2_b := (HT.out.bx 22 rfl 2).trans rfl; have hz_b := (HT.out.far 22 rfl (k := g_b) rfl).1) | ((with_reducible refine gate_dst (N := 153) rfl ?_); (try (refine gate_guard (by rfl) ?_; dsimp only)); refine goesL_ (some 153) rfl rfl Try.func26 (by kernel_rfl) rfl #[.agg #[.int .i64 a0_0, .int .i64 a0_1, .slice A0_2 l0_2.length c0_2], .slice A5 l5.length c5] rfl (by (try simp only [List.map_toArray, List.map_cons, List.map_nil]); first | done | rfl) ?_; (with_reducible refine (board_Of.calls a0_0 a0_1 _ _ l0_2 _ _ l5 v _ ?s1 ?s2 ?s3 ?s4 E15.out).mono ?_); (case s1 => exact Kd.C_below HR0.out HT.out.below); (case s2 => exact HC0.out); (case s3 => exact Kd.C_below HR5.out HT.out.below); (case s4 => exact HC5.out); rintro e_ w_153 ⟨v_, rfl, ho, hb⟩; refine ⟨_, rfl, ?_⟩; obtain ⟨A_v, c_v, rfl⟩ := Kd.R_slice ho; replace HT := Aside0.mk (HT.out.pushR ho hb); clear ho hb; have hx0_B_own := (HT.out.bx 19 rfl 0).trans rfl; have hx1_B_own := (HT.out.bx 19 rfl 1).trans rfl; have hx2_B_own := (HT.out.bx 19 rfl 2).trans rfl; have hz_B_own := (HT.out.far 19 rfl (k := w_44.heap.size) rfl).1))
  replace HT := Aside0.mk (HT.out.step (T.below_drew_ _))
  refine start_ (n := 10) (S := fun w' => w'.cell? ⟨w_44.heap.size, 0, none⟩ = some (.int .i64 a0_0) ∧ w'.cell? ⟨w_44.heap.size, 1, none⟩ = some (.int .i64 a0_1) ∧ w'.cell? ⟨w_44.heap.size, 2, none⟩ = some (.slice A_own own.length c_own)) (ds := []) #[false, false, false, false, false, false, false, false, false, false] (by kernel_rfl) rfl rfl ⟨(HT.out.bx 19 rfl 0).trans rfl, (HT.out.bx 19 rfl 1).trans rfl, (HT.out.bx 19 rfl 2).trans rfl⟩ (fun hHeld => ?_); refine with_tabW watchmanlaw08_BoardDoes.tab16 watchmanlaw08_BoardDoes.bits16 (fun HT_ HW_ => ?_)
  generalize w_153.drew = w_r16 at HT hHeld ⊢
  have Q_ := Qs.mk (n := 10) [(0, 0, 154, 1), (0, 1, 155, 3), (0, 2, 156, 7), (0, 4, 158, 23), (2, 3, 157, 31)]
  iterate 5 (first | (obtain ⟨q_, Q_⟩ := Qs.p Q_; refine pureQ_ q_ (v := ?_) (a' := ?_) rfl rfl (any_of HT_.out (by kernel_rfl)) (fun _ _ _ h => h) (Or.inl ⟨by rfl, ?_⟩) ?_ ?_; rotate_left; (intro w'; go_simp; (first | (with_reducible rfl) | rfl)); rotate_left; (simp only [Act.put, List.setIfInBounds_toArray, List.set_cons_zero, List.set_cons_succ, i64_w, i32_w]; rfl)) | (obtain ⟨q_, Q_⟩ := Qs.t Q_; refine takeQ_ q_ (v := ?_) (a' := ?_) rfl rfl (take_ofW HT_.out HW_.out (by kernel_rfl)) (fun _ _ _ h => h) (Or.inl ⟨by rfl, ?_⟩) hHeld ?_ ?_; rotate_left; (rintro w' ⟨s0, s1, s2⟩; go_simp; (first | (with_reducible rfl) | rfl)); rotate_left; (simp only [Act.put, List.setIfInBounds_toArray, List.set_cons_zero, List.set_cons_succ, i64_w, i32_w]; rfl)))
  clear Q_
  refine one_ (i := 5) (N := some 159) (bt_ 63 10) rfl rfl (one_of HT_.out (by kernel_rfl)) (by decide) (fun K hK => ?_)
  refine goes_ Try.func29 (by kernel_rfl) rfl #[.slice A5 l5.length c5] (by rfl) rfl rfl (by (try simp only [List.map_toArray, List.map_cons, List.map_nil]); first | done | rfl) ?_
  (with_reducible refine (watchmanref01_Own.calls _ _ l5 bd _ ?s1 ?s2 E16.out).mono ?_); (case s1 => exact Kd.C_below HR5.out HT.out.below); (case s2 => exact HC5.out)
  rintro e_ w_159 ⟨v_, rfl, ho, hb⟩; refine ⟨_, rfl, ?_⟩; obtain ⟨A_bd, c_bd, rfl⟩ := Kd.R_slice ho; replace HT := Aside0.mk (HT.out.pushR ho hb); clear ho hb
  refine hK.out _ _ ⟨(HT.out.bx 20 rfl 0).trans rfl, (HT.out.bx 20 rfl 1).trans rfl, (HT.out.bx 20 rfl 2).trans rfl⟩ (fun hHeld => ?_); clear hK K; refine norm_ (a' := ?_) ?_ ?_
  rotate_left
  · show Act.put _ (some 159) _ = _
    simp only [Act.put, List.setIfInBounds_toArray, List.set_cons_zero, List.set_cons_succ, i64_w, i32_w]
    rfl
  refine one_ (i := 6) (N := some 160) (bt_ 127 10) rfl rfl (one_of HT_.out (by kernel_rfl)) (by decide) (fun K hK => ?_)
  refine goes_ Try.func28 (by kernel_rfl) rfl #[.agg #[.int .i64 a0_0, .int .i64 a0_1, .slice A_own own.length c_own], .slice A_bd bd.length c_bd] (by rfl) rfl rfl (by (try simp only [List.map_toArray, List.map_cons, List.map_nil]); first | done | rfl) ?_
  (with_reducible refine (watchmanref08_Of.calls k a0_0 a0_1 _ _ own _ _ bd x _ ?s1 ?s2 ?s3 ?s4 E17.out).mono ?_); (case s1 => exact HT.out.rc 21 rfl); (case s2 => exact HT.out.rl 21 rfl); (case s3 => exact HT.out.rc 0 rfl); (case s4 => exact HT.out.rl 0 rfl)
  rintro e_ w_160 ⟨v_, rfl, ho, hb⟩; refine ⟨_, rfl, ?_⟩; obtain ⟨A_x, c_x, rfl⟩ := Kd.R_slice ho; replace HT := Aside0.mk (HT.out.pushR ho hb); clear ho hb
  refine hK.out _ _ ⟨(HT.out.bx 21 rfl 0).trans rfl, (HT.out.bx 21 rfl 1).trans rfl, (HT.out.bx 21 rfl 2).trans rfl⟩ (fun hHeld => ?_); clear hK K; refine norm_ (a' := ?_) ?_ ?_
  rotate_left
  · show Act.put _ (some 160) _ = _
    simp only [Act.put, List.setIfInBounds_toArray, List.set_cons_zero, List.set_cons_succ, i64_w, i32_w]
    rfl
  refine one_ (i := 7) (N := some 161) (bt_ 255 10) rfl rfl (one_of HT_.out (by kernel_rfl)) (by decide) (fun K hK => ?_)
  refine goes_ Try.func27 (by kernel_rfl) rfl #[.slice A_v v.length c_v, .slice A_x x.length c_x] (by rfl) rfl rfl (by (try simp only [List.map_toArray, List.map_cons, List.map_nil]); first | done | rfl) ?_
  (with_reducible refine (watchmanref07_Same.calls k _ _ v _ _ x _ _ ?s1 ?s2 ?s3 ?s4 E18.out).mono ?_); (case s1 => exact HT.out.rc 2 rfl); (case s2 => exact HT.out.rl 2 rfl); (case s3 => exact HT.out.rc 0 rfl); (case s4 => exact HT.out.rl 0 rfl)
  rintro e_ w_161 ⟨rfl, hd⟩; refine ⟨_, rfl, ?_⟩; replace HT := Aside0.mk (HT.out.step hd.below); clear hd
  refine hK.out _ _ ⟨(HT.out.bx 21 rfl 0).trans rfl, (HT.out.bx 21 rfl 1).trans rfl, (HT.out.bx 21 rfl 2).trans rfl⟩ (fun hHeld => ?_); clear hK K; refine norm_ (a' := ?_) ?_ ?_
  rotate_left
  · show Act.put _ (some 161) _ = _
    simp only [Act.put, List.setIfInBounds_toArray, List.set_cons_zero, List.set_cons_succ, i64_w, i32_w]
    rfl
  have Q_ := Qs.mk (n := 10) [(0, 8, 162, 511), (0, 9, 34, 1023)]
  iterate 2 (first | (obtain ⟨q_, Q_⟩ := Qs.p Q_; refine pureQ_ q_ (v := ?_) (a' := ?_) rfl rfl (any_of HT_.out (by kernel_rfl)) (fun _ _ _ h => h) (Or.inl ⟨by rfl, ?_⟩) ?_ ?_; rotate_left; (intro w'; go_simp; (first | (with_reducible rfl) | rfl)); rotate_left; (simp only [Act.put, List.setIfInBounds_toArray, List.set_cons_zero, List.set_cons_succ, i64_w, i32_w]; rfl)))
  clear Q_
  refine done_ (done_of HT_.out (by kernel_rfl)) ?_; clear hHeld
  have hx0_B_c := (HT.out.bx 19 rfl 0).trans rfl; have hx1_B_c := (HT.out.bx 19 rfl 1).trans rfl; have hx2_B_c := (HT.out.bx 19 rfl 2).trans rfl; have hz_B_c := (HT.out.far 19 rfl (k := w_48.heap.size) rfl).1
  go_wp2_with (first | ((with_reducible refine gate_dst (N := 165) rfl ?_); (try (refine gate_guard (by rfl) ?_; dsimp only)); refine goesL_ (some 165) rfl rfl Try.func30 (by kernel_rfl) rfl #[.slice A_c3 c3.length c_c3] rfl (by (try simp only [List.map_toArray, List.map_cons, List.map_nil]); first | done | rfl) ?_; (with_reducible refine (watchmanlaw08_smudge.calls k _ _ c3 z1 w _ ?s1 (HT.out.get 20 rfl) E19.out).mono ?_); (case s1 => exact HT.out.below); rintro e_ w_165 ⟨rfl, ho, hb, hkp⟩; refine ⟨_, rfl, ?_⟩; clear ho; replace HT := Aside0.mk (HT.out.drop 20 rfl hkp (fun _ h_ => h_) hb); clear hb hkp; have hx0_B_g := (HT.out.bx 15 rfl 0).trans rfl; have hx1_B_g := (HT.out.bx 15 rfl 1).trans rfl; have hx2_B_g := (HT.out.bx 15 rfl 2).trans rfl; have hz_B_g := (HT.out.far 15 rfl (k := w_60.heap.size) rfl).1) | ((with_reducible refine gate_dst (N := 168) rfl ?_); (try (refine gate_guard (by rfl) ?_; dsimp only)); refine goesL_ (some 168) rfl rfl Try.func30 (by kernel_rfl) rfl #[.slice A_g3 g3.length c_g3] rfl (by (try simp only [List.map_toArray, List.map_cons, List.map_nil]); first | done | rfl) ?_; (with_reducible refine (watchmanlaw08_smudge.calls k _ _ g3 z2 w _ ?s1 (HT.out.get 16 rfl) E20.out).mono ?_); (case s1 => exact HT.out.below); rintro e_ w_168 ⟨rfl, ho, hb, hkp⟩; refine ⟨_, rfl, ?_⟩; clear ho; replace HT := Aside0.mk (HT.out.drop 16 rfl hkp (fun _ h_ => h_) hb); clear hb hkp; have hx0_B_k := (HT.out.bx 11 rfl 0).trans rfl; have hx1_B_k := (HT.out.bx 11 rfl 1).trans rfl; have hx2_B_k := (HT.out.bx 11 rfl 2).trans rfl; have hz_B_k := (HT.out.far 11 rfl (k := w_72.heap.size) rfl).1) | ((with_reducible refine gate_dst (N := 171) rfl ?_); (try (refine gate_guard (by rfl) ?_; dsimp only)); refine goesL_ (some 171) rfl rfl Try.func30 (by kernel_rfl) rfl #[.slice A_k3 k3.length c_k3] rfl (by (try simp only [List.map_toArray, List.map_cons, List.map_nil]); first | done | rfl) ?_; (with_reducible refine (watchmanlaw08_smudge.calls k _ _ k3 z3 w _ ?s1 (HT.out.get 12 rfl) E21.out).mono ?_); (case s1 => exact HT.out.below); rintro e_ w_171 ⟨rfl, ho, hb, hkp⟩; refine ⟨_, rfl, ?_⟩; clear ho; replace HT := Aside0.mk (HT.out.drop 12 rfl hkp (fun _ h_ => h_) hb); clear hb hkp) | ((with_reducible refine gate_dst (N := 173) rfl ?_); (try (refine gate_guard (by rfl) ?_; dsimp only)); refine goesL_ (some 173) rfl rfl Try.func30 (by kernel_rfl) rfl #[.slice A_v v.length c_v] rfl (by (try simp only [List.map_toArray, List.map_cons, List.map_nil]); first | done | rfl) ?_; (with_reducible refine (watchmanlaw08_smudge.calls k _ _ v z4 w _ ?s1 (HT.out.get 2 rfl) E22.out).mono ?_); (case s1 => exact HT.out.below); rintro e_ w_173 ⟨rfl, ho, hb, hkp⟩; refine ⟨_, rfl, ?_⟩; clear ho; replace HT := Aside0.mk (HT.out.drop 2 rfl hkp (fun _ h_ => h_) hb); clear hb hkp))
  replace HT := Aside0.mk (HT.out.step (T.below_drew_ _))
  refine start_ (n := 17) (S := fun w' => w'.cell? ⟨g_b, 0, none⟩ = some (.int .i64 a0_0) ∧ w'.cell? ⟨g_b, 1, none⟩ = some (.int .i64 a0_1) ∧ w'.cell? ⟨g_b, 2, none⟩ = some (.slice A0_2 l0_2.length c0_2) ∧ w'.cell? ⟨w_44.heap.size, 0, none⟩ = some (.int .i64 a0_0) ∧ w'.cell? ⟨w_44.heap.size, 1, none⟩ = some (.int .i64 a0_1) ∧ w'.cell? ⟨w_44.heap.size, 2, none⟩ = some (.slice A_own own.length c_own)) (ds := []) #[false, false, false, false, false, false, false, false, false, false, false, false, false, false, false, false, false] (by kernel_rfl) rfl rfl ⟨(HT.out.bx 21 rfl 0).trans rfl, (HT.out.bx 21 rfl 1).trans rfl, (HT.out.bx 21 rfl 2).trans rfl, (HT.out.bx 17 rfl 0).trans rfl, (HT.out.bx 17 rfl 1).trans rfl, (HT.out.bx 17 rfl 2).trans rfl⟩ (fun hHeld => ?_); refine with_tabW watchmanlaw08_BoardDoes.tab21 watchmanlaw08_BoardDoes.bits21 (fun HT_ HW_ => ?_)
  generalize w_173.drew = w_r21 at HT hHeld ⊢
  refine one_ (i := 0) (N := some 174) (bt_ 1 17) rfl rfl (one_of HT_.out (by kernel_rfl)) (by decide) (fun K hK => ?_)
  refine goes_ Try.func31 (by kernel_rfl) rfl #[] (by rfl) rfl rfl (by (try simp only [List.map_toArray, List.map_cons, List.map_nil]); first | done | rfl) ?_
  (with_reducible refine (watchmanlaw08_boards.calls true _ rfl).mono ?_)
  rintro e_ w_174 ⟨rfl, hb⟩; refine ⟨_, rfl, ?_⟩; replace HT := Aside0.mk (HT.out.step hb); clear hb
  refine hK.out _ _ ⟨(HT.out.bx 21 rfl 0).trans rfl, (HT.out.bx 21 rfl 1).trans rfl, (HT.out.bx 21 rfl 2).trans rfl, (HT.out.bx 17 rfl 0).trans rfl, (HT.out.bx 17 rfl 1).trans rfl, (HT.out.bx 17 rfl 2).trans rfl⟩ (fun hHeld => ?_); clear hK K; refine norm_ (a' := ?_) ?_ ?_
  rotate_left
  · show Act.put _ (some 174) _ = _
    simp only [Act.put, List.setIfInBounds_toArray, List.set_cons_zero, List.set_cons_succ, i64_w, i32_w]
    rfl
  have Q_ := Qs.mk (n := 17) [(0, 1, 175, 3), (0, 2, 176, 7), (0, 3, 177, 15), (0, 4, 178, 31), (2, 5, 179, 63), (2, 7, 181, 191)]
  iterate 6 (first | (obtain ⟨q_, Q_⟩ := Qs.p Q_; refine pureQ_ q_ (v := ?_) (a' := ?_) rfl rfl (any_of HT_.out (by kernel_rfl)) (fun _ _ _ h => h) (Or.inl ⟨by rfl, ?_⟩) ?_ ?_; rotate_left; (intro w'; go_simp; (first | (with_reducible rfl) | rfl)); rotate_left; (simp only [Act.put, List.setIfInBounds_toArray, List.set_cons_zero, List.set_cons_succ, i64_w, i32_w]; rfl)) | (obtain ⟨q_, Q_⟩ := Qs.t Q_; refine takeQ_ q_ (v := ?_) (a' := ?_) rfl rfl (take_ofW HT_.out HW_.out (by kernel_rfl)) (fun _ _ _ h => h) (Or.inl ⟨by rfl, ?_⟩) hHeld ?_ ?_; rotate_left; (rintro w' ⟨s0, s1, s2, s3, s4, s5⟩; go_simp; (first | (with_reducible rfl) | rfl)); rotate_left; (simp only [Act.put, List.setIfInBounds_toArray, List.set_cons_zero, List.set_cons_succ, i64_w, i32_w]; rfl)))
  clear Q_
  refine one_ (i := 6) (N := some 180) (bt_ 255 17) rfl rfl (one_of HT_.out (by kernel_rfl)) (by decide) (fun K hK => ?_)
  refine goes_ Try.func32 (by kernel_rfl) rfl #[.agg #[.int .i64 a0_0, .int .i64 a0_1, .slice A0_2 l0_2.length c0_2]] (by rfl) rfl rfl (by (try simp only [List.map_toArray, List.map_cons, List.map_nil]); first | done | rfl) ?_
  (with_reducible refine (board_Is.calls k a0_0 a0_1 _ _ l0_2 p _ ?s1 ?s2 E23.out).mono ?_); (case s1 => exact Kd.C_below HR0.out HT.out.below); (case s2 => exact HC0.out)
  rintro e_ w_180 ⟨rfl, hb⟩; refine ⟨_, rfl, ?_⟩; replace HT := Aside0.mk (HT.out.step hb); clear hb
  refine hK.out _ _ ⟨(HT.out.bx 21 rfl 0).trans rfl, (HT.out.bx 21 rfl 1).trans rfl, (HT.out.bx 21 rfl 2).trans rfl, (HT.out.bx 17 rfl 0).trans rfl, (HT.out.bx 17 rfl 1).trans rfl, (HT.out.bx 17 rfl 2).trans rfl⟩ (fun hHeld => ?_); clear hK K; refine norm_ (a' := ?_) ?_ ?_
  rotate_left
  · show Act.put _ (some 180) _ = _
    simp only [Act.put, List.setIfInBounds_toArray, List.set_cons_zero, List.set_cons_succ, i64_w, i32_w]
    rfl
  refine one_ (i := 8) (N := some 182) (bt_ 511 17) rfl rfl (one_of HT_.out (by kernel_rfl)) (by decide) (fun K hK => ?_)
  refine goes_ Try.func33 (by kernel_rfl) rfl #[.agg #[.int .i64 a0_0, .int .i64 a0_1, .slice A_own own.length c_own]] (by rfl) rfl rfl (by (try simp only [List.map_toArray, List.map_cons, List.map_nil]); first | done | rfl) ?_
  (with_reducible refine (watchmanref08_Is.calls k a0_0 a0_1 _ _ own p _ ?s1 ?s2 E24.out).mono ?_); (case s1 => exact HT.out.rc 18 rfl); (case s2 => exact HT.out.rl 18 rfl)
  rintro e_ w_182 ⟨rfl, hb⟩; refine ⟨_, rfl, ?_⟩; replace HT := Aside0.mk (HT.out.step hb); clear hb
  refine hK.out _ _ ⟨(HT.out.bx 21 rfl 0).trans rfl, (HT.out.bx 21 rfl 1).trans rfl, (HT.out.bx 21 rfl 2).trans rfl, (HT.out.bx 17 rfl 0).trans rfl, (HT.out.bx 17 rfl 1).trans rfl, (HT.out.bx 17 rfl 2).trans rfl⟩ (fun hHeld => ?_); clear hK K; refine norm_ (a' := ?_) ?_ ?_
  rotate_left
  · show Act.put _ (some 182) _ = _
    simp only [Act.put, List.setIfInBounds_toArray, List.set_cons_zero, List.set_cons_succ, i64_w, i32_w]
    rfl
  have Q_ := Qs.mk (n := 17) [(0, 9, 183, 1023), (0, 10, 184, 2047), (0, 11, 185, 4095), (2, 12, 186, 8191), (2, 13, 187, 16383)]
  iterate 5 (first | (obtain ⟨q_, Q_⟩ := Qs.p Q_; refine pureQ_ q_ (v := ?_) (a' := ?_) rfl rfl (any_of HT_.out (by kernel_rfl)) (fun _ _ _ h => h) (Or.inl ⟨by rfl, ?_⟩) ?_ ?_; rotate_left; (intro w'; go_simp; (first | (with_reducible rfl) | rfl)); rotate_left; (simp only [Act.put, List.setIfInBounds_toArray, List.set_cons_zero, List.set_cons_succ, i64_w, i32_w]; rfl)) | (obtain ⟨q_, Q_⟩ := Qs.t Q_; refine takeQ_ q_ (v := ?_) (a' := ?_) rfl rfl (take_ofW HT_.out HW_.out (by kernel_rfl)) (fun _ _ _ h => h) (Or.inl ⟨by rfl, ?_⟩) hHeld ?_ ?_; rotate_left; (rintro w' ⟨s0, s1, s2, s3, s4, s5⟩; go_simp; (first | (with_reducible rfl) | rfl)); rotate_left; (simp only [Act.put, List.setIfInBounds_toArray, List.set_cons_zero, List.set_cons_succ, i64_w, i32_w]; rfl)))
  clear Q_
  refine one_ (i := 14) (N := some 188) (bt_ 32767 17) rfl rfl (one_of HT_.out (by kernel_rfl)) (by decide) (fun K hK => ?_)
  refine goes_ Try.func25 (by kernel_rfl) rfl #[.agg #[.int .i64 a0_0, .int .i64 a0_1, .slice A0_2 l0_2.length c0_2], .agg #[.int .i64 a0_0, .int .i64 a0_1, .slice A_own own.length c_own]] (by rfl) rfl rfl (by (try simp only [List.map_toArray, List.map_cons, List.map_nil]); first | done | rfl) ?_
  (with_reducible refine (watchmanref08_Same.calls k a0_0 a0_1 _ _ l0_2 a0_0 a0_1 _ _ own _ _ ?s1 ?s2 ?s3 ?s4 E25.out).mono ?_); (case s1 => exact Kd.C_below HR0.out HT.out.below); (case s2 => exact HC0.out); (case s3 => exact HT.out.rc 18 rfl); (case s4 => exact HT.out.rl 18 rfl)
  rintro e_ w_188 ⟨rfl, hb⟩; refine ⟨_, rfl, ?_⟩; replace HT := Aside0.mk (HT.out.step hb); clear hb
  refine hK.out _ _ ⟨(HT.out.bx 21 rfl 0).trans rfl, (HT.out.bx 21 rfl 1).trans rfl, (HT.out.bx 21 rfl 2).trans rfl, (HT.out.bx 17 rfl 0).trans rfl, (HT.out.bx 17 rfl 1).trans rfl, (HT.out.bx 17 rfl 2).trans rfl⟩ (fun hHeld => ?_); clear hK K; refine norm_ (a' := ?_) ?_ ?_
  rotate_left
  · show Act.put _ (some 188) _ = _
    simp only [Act.put, List.setIfInBounds_toArray, List.set_cons_zero, List.set_cons_succ, i64_w, i32_w]
    rfl
  have Q_ := Qs.mk (n := 17) [(0, 15, 189, 65535), (0, 16, 12, 131071)]
  iterate 2 (first | (obtain ⟨q_, Q_⟩ := Qs.p Q_; refine pureQ_ q_ (v := ?_) (a' := ?_) rfl rfl (any_of HT_.out (by kernel_rfl)) (fun _ _ _ h => h) (Or.inl ⟨by rfl, ?_⟩) ?_ ?_; rotate_left; (intro w'; go_simp; (first | (with_reducible rfl) | rfl)); rotate_left; (simp only [Act.put, List.setIfInBounds_toArray, List.set_cons_zero, List.set_cons_succ, i64_w, i32_w]; rfl)))
  clear Q_
  refine done_ (done_of HT_.out (by kernel_rfl)) ?_; clear hHeld
  go_wp2
  go_ret
  exact ⟨rfl, HT.out.below⟩
set_option maxHeartbeats 8000000 in
set_option maxRecDepth 100000 in
theorem watchmanlaw08_BoardDoes.early0 (k : Nat) (a0_0 a0_1 : Int) (A0_2 : Option Addr) (c0_2 : Nat) (l0_2 : List S28) (a1_0 a1_1 a1_2 a1_3 a1_4 a1_5 : Int) (a2_0 a2_1 : Int) (a3 a4 : Int) (A5 : Option Addr) (c5 : Nat) (l5 : List Int) (w : World) (hr0_2 : Kd.C k28 w A0_2 l0_2.length l0_2) (hc0_2 : l0_2.length ≤ c0_2) (hr5 : Kd.C (Kd.int .i64) w A5 l5.length l5) (hc5 : l5.length ≤ c5) (F0 : watchmanlaw08_far.f a0_0 a0_1 l0_2 = some true) :
    Calls Try.prog 3 #[.agg #[.int .i64 a0_0, .int .i64 a0_1, .slice A0_2 l0_2.length c0_2], .agg #[.int .i64 a1_0, .int .i64 a1_1, .int .i64 a1_2, .int .i64 a1_3, .int .i64 a1_4, .int .i64 a1_5], .agg #[.int .i64 a2_0, .int .i64 a2_1], .int .i64 a3, .int .i64 a4, .slice A5 l5.length c5] w fun e w' => e = .returned (.bool true) ∧ Below w.heap.size w w' := by
  have hu0 := Try.underlying24
  have hu1 := Try.underlying28
  have hu2 := Try.underlying26
  have HR0 := Aside0.mk hr0_2
  have HC0 := Aside0.mk hc0_2
  have HR5 := Aside0.mk hr5
  have HC5 := Aside0.mk hc5
  clear hr0_2 hc0_2 hr5 hc5
  have HT := Aside0.mk (T.Tell.init w)
  replace F0 := Aside0.mk F0
  go_enter Try.func3, Try.ntmps3
  go_wp2_with (first | ((with_reducible refine gate_dst (N := 6) rfl ?_); refine box_event ?hg (N := 6) ?hd (cs := #[.int .i64 a0_0, .int .i64 a0_1, .slice A0_2 l0_2.length c0_2]) (t := 24) ?hr ?_; (case hd => rfl); (case hg => rfl); (case hr => first | (go_simp; done) | (go_simp; rfl)); intro g_b hg w_6 hbox hb; replace HT := Aside0.mk (HT.out.pushBe hbox hg hb); clear hb hbox hg) | ((with_reducible refine gate_dst (N := 7) rfl ?_); refine box_event ?hg (N := 7) ?hd (cs := #[.int .i64 a1_0, .int .i64 a1_1, .int .i64 a1_2, .int .i64 a1_3, .int .i64 a1_4, .int .i64 a1_5]) (t := 28) ?hr ?_; (case hd => rfl); (case hg => rfl); (case hr => first | (go_simp; done) | (go_simp; rfl)); intro g_a hg w_7 hbox hb; replace HT := Aside0.mk (HT.out.pushBe hbox hg hb); clear hb hbox hg) | ((with_reducible refine gate_dst (N := 8) rfl ?_); refine box_event ?hg (N := 8) ?hd (cs := #[.int .i64 a2_0, .int .i64 a2_1]) (t := 26) ?hr ?_; (case hd => rfl); (case hg => rfl); (case hr => first | (go_simp; done) | (go_simp; rfl)); intro g_s hg w_8 hbox hb; replace HT := Aside0.mk (HT.out.pushBe hbox hg hb); clear hb hbox hg; have hx0_b := (HT.out.bx 2 rfl 0).trans rfl; have hx1_b := (HT.out.bx 2 rfl 1).trans rfl; have hx2_b := (HT.out.bx 2 rfl 2).trans rfl; have hz_b := (HT.out.far 2 rfl (k := g_b) rfl).1) | ((with_reducible refine gate_dst (N := 37) rfl ?_); (try (refine gate_guard (by rfl) ?_; dsimp only)); refine goesL_ (some 37) rfl rfl Try.func13 (by kernel_rfl) rfl #[.agg #[.int .i64 a0_0, .int .i64 a0_1, .slice A0_2 l0_2.length c0_2]] rfl (by (try simp only [List.map_toArray, List.map_cons, List.map_nil]); first | done | rfl) ?_; (with_reducible refine (watchmanlaw08_far.calls a0_0 a0_1 _ _ l0_2 _ _ ?s1 ?s2 F0.out).mono ?_); (case s1 => exact Kd.C_below HR0.out HT.out.below); (case s2 => exact HC0.out); rintro e_ w_37 ⟨rfl, hb⟩; refine ⟨_, rfl, ?_⟩; replace HT := Aside0.mk (HT.out.step hb); clear hb; have hx0_b := (HT.out.bx 2 rfl 0).trans rfl; have hx1_b := (HT.out.bx 2 rfl 1).trans rfl; have hx2_b := (HT.out.bx 2 rfl 2).trans rfl; have hz_b := (HT.out.far 2 rfl (k := g_b) rfl).1))
  go_ret
  exact ⟨rfl, HT.out.below⟩
set_option maxHeartbeats 8000000 in
set_option maxRecDepth 100000 in
theorem watchmanlaw08_BoardDoes.early1 (k : Nat) (a0_0 a0_1 : Int) (A0_2 : Option Addr) (c0_2 : Nat) (l0_2 : List S28) (a1_0 a1_1 a1_2 a1_3 a1_4 a1_5 : Int) (a2_0 a2_1 : Int) (a3 a4 : Int) (A5 : Option Addr) (c5 : Nat) (l5 : List Int) (w : World) (hr0_2 : Kd.C k28 w A0_2 l0_2.length l0_2) (hc0_2 : l0_2.length ≤ c0_2) (hr5 : Kd.C (Kd.int .i64) w A5 l5.length l5) (hc5 : l5.length ≤ c5) (F0 : watchmanlaw08_far.f a0_0 a0_1 l0_2 = some false) (hl : decide ((l5.length : Int) > 60) = true) :
    Calls Try.prog 3 #[.agg #[.int .i64 a0_0, .int .i64 a0_1, .slice A0_2 l0_2.length c0_2], .agg #[.int .i64 a1_0, .int .i64 a1_1, .int .i64 a1_2, .int .i64 a1_3, .int .i64 a1_4, .int .i64 a1_5], .agg #[.int .i64 a2_0, .int .i64 a2_1], .int .i64 a3, .int .i64 a4, .slice A5 l5.length c5] w fun e w' => e = .returned (.bool true) ∧ Below w.heap.size w w' := by
  have hu0 := Try.underlying24
  have hu1 := Try.underlying28
  have hu2 := Try.underlying26
  have HR0 := Aside0.mk hr0_2
  have HC0 := Aside0.mk hc0_2
  have HR5 := Aside0.mk hr5
  have HC5 := Aside0.mk hc5
  clear hr0_2 hc0_2 hr5 hc5
  have HT := Aside0.mk (T.Tell.init w)
  replace F0 := Aside0.mk F0
  go_enter Try.func3, Try.ntmps3
  go_wp2_with (first | ((with_reducible refine gate_dst (N := 6) rfl ?_); refine box_event ?hg (N := 6) ?hd (cs := #[.int .i64 a0_0, .int .i64 a0_1, .slice A0_2 l0_2.length c0_2]) (t := 24) ?hr ?_; (case hd => rfl); (case hg => rfl); (case hr => first | (go_simp; done) | (go_simp; rfl)); intro g_b hg w_6 hbox hb; replace HT := Aside0.mk (HT.out.pushBe hbox hg hb); clear hb hbox hg) | ((with_reducible refine gate_dst (N := 7) rfl ?_); refine box_event ?hg (N := 7) ?hd (cs := #[.int .i64 a1_0, .int .i64 a1_1, .int .i64 a1_2, .int .i64 a1_3, .int .i64 a1_4, .int .i64 a1_5]) (t := 28) ?hr ?_; (case hd => rfl); (case hg => rfl); (case hr => first | (go_simp; done) | (go_simp; rfl)); intro g_a hg w_7 hbox hb; replace HT := Aside0.mk (HT.out.pushBe hbox hg hb); clear hb hbox hg) | ((with_reducible refine gate_dst (N := 8) rfl ?_); refine box_event ?hg (N := 8) ?hd (cs := #[.int .i64 a2_0, .int .i64 a2_1]) (t := 26) ?hr ?_; (case hd => rfl); (case hg => rfl); (case hr => first | (go_simp; done) | (go_simp; rfl)); intro g_s hg w_8 hbox hb; replace HT := Aside0.mk (HT.out.pushBe hbox hg hb); clear hb hbox hg; have hx0_b := (HT.out.bx 2 rfl 0).trans rfl; have hx1_b := (HT.out.bx 2 rfl 1).trans rfl; have hx2_b := (HT.out.bx 2 rfl 2).trans rfl; have hz_b := (HT.out.far 2 rfl (k := g_b) rfl).1) | ((with_reducible refine gate_dst (N := 37) rfl ?_); (try (refine gate_guard (by rfl) ?_; dsimp only)); refine goesL_ (some 37) rfl rfl Try.func13 (by kernel_rfl) rfl #[.agg #[.int .i64 a0_0, .int .i64 a0_1, .slice A0_2 l0_2.length c0_2]] rfl (by (try simp only [List.map_toArray, List.map_cons, List.map_nil]); first | done | rfl) ?_; (with_reducible refine (watchmanlaw08_far.calls a0_0 a0_1 _ _ l0_2 _ _ ?s1 ?s2 F0.out).mono ?_); (case s1 => exact Kd.C_below HR0.out HT.out.below); (case s2 => exact HC0.out); rintro e_ w_37 ⟨rfl, hb⟩; refine ⟨_, rfl, ?_⟩; replace HT := Aside0.mk (HT.out.step hb); clear hb; have hx0_b := (HT.out.bx 2 rfl 0).trans rfl; have hx1_b := (HT.out.bx 2 rfl 1).trans rfl; have hx2_b := (HT.out.bx 2 rfl 2).trans rfl; have hz_b := (HT.out.far 2 rfl (k := g_b) rfl).1))
  go_ret
  exact ⟨rfl, HT.out.below⟩
def watchmanlaw08_BoardDoes.Holds (k : Nat) (a0_0 a0_1 : Int) (l0_2 : List S28) (a1_0 a1_1 a1_2 a1_3 a1_4 a1_5 : Int) (a2_0 a2_1 : Int) (a3 a4 : Int) (l5 : List Int) : Prop := watchmanlaw08_far.f a0_0 a0_1 l0_2 = some true ∨ (watchmanlaw08_far.f a0_0 a0_1 l0_2 = some false ∧ decide ((l5.length : Int) > 60) = true) ∨ (watchmanlaw08_far.f a0_0 a0_1 l0_2 = some false ∧ decide ((l5.length : Int) > 60) = false ∧ watchmanlaw08_BoardDoes.Goes k a0_0 a0_1 l0_2 a1_0 a1_1 a1_2 a1_3 a1_4 a1_5 a2_0 a2_1 a3 a4 l5)
noncomputable def watchmanlaw08_BoardDoes.f (k : Nat) (a0_0 a0_1 : Int) (l0_2 : List S28) (a1_0 a1_1 a1_2 a1_3 a1_4 a1_5 : Int) (a2_0 a2_1 : Int) (a3 a4 : Int) (l5 : List Int) : Option Bool := @ite _ (watchmanlaw08_BoardDoes.Holds k a0_0 a0_1 l0_2 a1_0 a1_1 a1_2 a1_3 a1_4 a1_5 a2_0 a2_1 a3 a4 l5) (Classical.propDecidable _) (some true) none
theorem watchmanlaw08_BoardDoes.calls (k : Nat) (a0_0 a0_1 : Int) (A0_2 : Option Addr) (c0_2 : Nat) (l0_2 : List S28) (a1_0 a1_1 a1_2 a1_3 a1_4 a1_5 : Int) (a2_0 a2_1 : Int) (a3 a4 : Int) (A5 : Option Addr) (c5 : Nat) (l5 : List Int) (r : Bool) (w : World) (hr0_2 : Kd.C k28 w A0_2 l0_2.length l0_2) (hc0_2 : l0_2.length ≤ c0_2) (hr5 : Kd.C (Kd.int .i64) w A5 l5.length l5) (hc5 : l5.length ≤ c5) (h : watchmanlaw08_BoardDoes.f k a0_0 a0_1 l0_2 a1_0 a1_1 a1_2 a1_3 a1_4 a1_5 a2_0 a2_1 a3 a4 l5 = some r) :
    Calls Try.prog 3 #[.agg #[.int .i64 a0_0, .int .i64 a0_1, .slice A0_2 l0_2.length c0_2], .agg #[.int .i64 a1_0, .int .i64 a1_1, .int .i64 a1_2, .int .i64 a1_3, .int .i64 a1_4, .int .i64 a1_5], .agg #[.int .i64 a2_0, .int .i64 a2_1], .int .i64 a3, .int .i64 a4, .slice A5 l5.length c5] w fun e w' => e = .returned (.bool r) ∧ Below w.heap.size w w' := by
  unfold watchmanlaw08_BoardDoes.f at h
  by_cases hh : watchmanlaw08_BoardDoes.Holds k a0_0 a0_1 l0_2 a1_0 a1_1 a1_2 a1_3 a1_4 a1_5 a2_0 a2_1 a3 a4 l5
  · rw [if_pos hh] at h
    obtain rfl := Option.some.inj h
    rcases hh with hh | ⟨h1, h2⟩ | ⟨h1, h2, h3⟩
    · exact watchmanlaw08_BoardDoes.early0 k a0_0 a0_1 A0_2 c0_2 l0_2 a1_0 a1_1 a1_2 a1_3 a1_4 a1_5 a2_0 a2_1 a3 a4 A5 c5 l5 w hr0_2 hc0_2 hr5 hc5 hh
    · exact watchmanlaw08_BoardDoes.early1 k a0_0 a0_1 A0_2 c0_2 l0_2 a1_0 a1_1 a1_2 a1_3 a1_4 a1_5 a2_0 a2_1 a3 a4 A5 c5 l5 w hr0_2 hc0_2 hr5 hc5 h1 h2
    · exact watchmanlaw08_BoardDoes.main k a0_0 a0_1 A0_2 c0_2 l0_2 a1_0 a1_1 a1_2 a1_3 a1_4 a1_5 a2_0 a2_1 a3 a4 A5 c5 l5 w hr0_2 hc0_2 hr5 hc5 h1 h2 h3
  · rw [if_neg hh] at h
    cases h

end Go.Proofs.Ytcfpbmdndapeaaa.F
