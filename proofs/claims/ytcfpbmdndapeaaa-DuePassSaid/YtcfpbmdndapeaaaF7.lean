-- Written by a program of this session (xprint.py), out of the translation and of contracts proved by hand.
import Derived.Test.YtcfpbmdndapeaaaF0
import Derived.Test.YtcfpbmdndapeaaaF5
import Derived.Test.YtcfpbmdndapeaaaF6
namespace Go.Proofs.Ytcfpbmdndapeaaa.F
open Go.RowKit Go.Proofs.YtcfpbmdndapeaaaV.PrintWords Go.Proofs.YtcfpbmdndapeaaaV.PrintLast Go.Proofs.YtcfpbmdndapeaaaV.PrintMore
attribute [local go_sem] max2_int min2_int max_two min_two max_three min_three max_four min_four   -- for this text's walks alone
set_option linter.unusedVariables false
set_option linter.unusedSimpArgs false

/-! ### board_Pass: function 19 -/
mutual
def board_Pass.j0 : Nat → Int → Bool → Int → Int → List (S28) → Option (Int × Int × (List (S28)) × Int)
 | 0, _, _, _, _, _ => none
 | k + 1, x1, x9, x167000, x167001, x167002 => if x9 = true then (some (0, 0, ([] : List (S28)), 1)) else (if x1 < x167001 then (some (0, 0, ([] : List (S28)), 62)) else (board_Pass.l0 k x1 x167002 (x167002.length : Int) 0 x167000 x1 ([] : List (S28))))
def board_Pass.l0 : Nat → Int → List (S28) → Int → Int → Int → Int → List (S28) → Option (Int × Int × (List (S28)) × Int)
 | 0, _, _, _, _, _, _, _ => none
 | k + 1, x1, x33, x34, x35, x170000, x170001, x170002 => if x35 < x34 then (if 0 ≤ x35 then (if x35 < (x33.length : Int) then ((alarm_Pass.f k ((rd_T28 x33 x35).f0.f0) ((rd_T28 x33 x35).f0.f1) ((rd_T28 x33 x35).f1) ((rd_T28 x33 x35).f2) ((rd_T28 x33 x35).f3) ((rd_T28 x33 x35).f4) x1).bind fun bt172 => (if x170002.length < 2932031007402 then (board_Pass.l0 k x1 x33 x34 (wrap64 (x35 + 1)) x170000 x170001 (x170002 ++ [(⟨(⟨bt172.1, bt172.2.1⟩ : S26), bt172.2.2.1, bt172.2.2.2.1, bt172.2.2.2.2.1, bt172.2.2.2.2.2⟩ : S28)])) else (none))) else (none)) else (none)) else ((board_Is.f k x170000 x170001 x170002).bind fun t181 => (if t181 = true then (some (x170000, x170001, x170002, 0)) else (some (0, 0, ([] : List (S28)), 1))))
end
def board_Pass.f (k : Nat) (a0_0 : Int) (a0_1 : Int) (l0_2 : List (S28)) (a1 : Int) : Option (Int × Int × (List (S28)) × Int) := (board_Is.f k a0_0 a0_1 l0_2).bind fun t168 => (if t168 = true then (if a1 < 0 then (board_Pass.j0 k a1 true a0_0 a0_1 l0_2) else (board_Pass.j0 k a1 (decide (a1 > 1000000000)) a0_0 a0_1 l0_2)) else (board_Pass.j0 k a1 true a0_0 a0_1 l0_2))
theorem board_Pass.mono_l : ∀ k, (∀ y0 y1 y2 y3 y4, LeO (board_Pass.j0 k y0 y1 y2 y3 y4) (board_Pass.j0 (k + 1) y0 y1 y2 y3 y4)) ∧ (∀ y0 y1 y2 y3 y4 y5 y6, LeO (board_Pass.l0 k y0 y1 y2 y3 y4 y5 y6) (board_Pass.l0 (k + 1) y0 y1 y2 y3 y4 y5 y6))
 | 0 => ⟨fun _ _ _ _ _ r h => by simp [board_Pass.j0] at h, fun _ _ _ _ _ _ _ r h => by simp [board_Pass.l0] at h⟩
 | k + 1 => by
  obtain ⟨ih0, ih1⟩ := board_Pass.mono_l k
  refine ⟨?_, ?_⟩
  ·intro y0 y1 y2 y3 y4
   unfold board_Pass.j0
   repeat' first
   | (with_reducible exact ih0 _ _ _ _ _)
   | (with_reducible exact ih1 _ _ _ _ _ _ _)
   | (with_reducible exact alarm_Pass.mono _ _ _ _ _ _ _ _)
   | (with_reducible exact board_Is.mono _ _ _ _)
   | (with_reducible exact LeO.refl _)
   | (with_reducible exact LeO.none _)
   | (with_reducible refine LeO.ite ?_ ?_)
   | (with_reducible refine LeO.bind ?_ (fun _ => ?_))
   | exact ih0 _ _ _ _ _
   | exact ih1 _ _ _ _ _ _ _
   | exact alarm_Pass.mono _ _ _ _ _ _ _ _
   | exact board_Is.mono _ _ _ _
   | exact LeO.none _
   | refine LeO.ite ?_ ?_
   | refine LeO.bind ?_ (fun _ => ?_)
  ·intro y0 y1 y2 y3 y4 y5 y6
   unfold board_Pass.l0
   repeat' first
   | (with_reducible exact ih0 _ _ _ _ _)
   | (with_reducible exact ih1 _ _ _ _ _ _ _)
   | (with_reducible exact alarm_Pass.mono _ _ _ _ _ _ _ _)
   | (with_reducible exact board_Is.mono _ _ _ _)
   | (with_reducible exact LeO.refl _)
   | (with_reducible exact LeO.none _)
   | (with_reducible refine LeO.ite ?_ ?_)
   | (with_reducible refine LeO.bind ?_ (fun _ => ?_))
   | exact ih0 _ _ _ _ _
   | exact ih1 _ _ _ _ _ _ _
   | exact alarm_Pass.mono _ _ _ _ _ _ _ _
   | exact board_Is.mono _ _ _ _
   | exact LeO.none _
   | refine LeO.ite ?_ ?_
   | refine LeO.bind ?_ (fun _ => ?_)
theorem board_Pass.mono : ∀ a0 a1 a2 a3 k, LeO (board_Pass.f k a0 a1 a2 a3) (board_Pass.f (k + 1) a0 a1 a2 a3) := by
 intro a0 a1 a2 a3 k
 obtain ⟨ih0, ih1⟩ := board_Pass.mono_l k
 unfold board_Pass.f
 repeat' first
  | (with_reducible exact ih0 _ _ _ _ _)
  | (with_reducible exact ih1 _ _ _ _ _ _ _)
  | (with_reducible exact alarm_Pass.mono _ _ _ _ _ _ _ _)
  | (with_reducible exact board_Is.mono _ _ _ _)
  | (with_reducible exact LeO.refl _)
  | (with_reducible exact LeO.none _)
  | (with_reducible refine LeO.ite ?_ ?_)
  | (with_reducible refine LeO.bind ?_ (fun _ => ?_))
  | exact ih0 _ _ _ _ _
  | exact ih1 _ _ _ _ _ _ _
  | exact alarm_Pass.mono _ _ _ _ _ _ _ _
  | exact board_Is.mono _ _ _ _
  | exact LeO.none _
  | refine LeO.ite ?_ ?_
  | refine LeO.bind ?_ (fun _ => ?_)
def board_Pass.T9 : Bool × List (List Nat × List Nat) := (true, [([], []), ([0], [0]), ([], []), ([], []), ([2, 3], [2, 3]), ([4], [4]), ([1, 5, 4], [1, 5]), ([0, 1, 2, 3, 4, 5, 6], []), ([7, 6, 6, 0, 1, 2, 3, 4, 5, 6], [6, 7])])
def board_Pass.B9 : List Nat := [0, 1, 0, 0, 12, 28, 63, 127, 255]
theorem board_Pass.tab9 : rtab .any (opsOf Try.f19 9) = board_Pass.T9 := by kernel_rfl
theorem board_Pass.bits9 : waitsOk board_Pass.T9.2 board_Pass.B9 = true := by kernel_rfl
set_option maxHeartbeats 8000000 in
set_option maxRecDepth 100000 in
theorem board_Pass.calls (k : Nat) (a0_0 : Int) (a0_1 : Int) (A0_2 : Option Addr) (c0_2 : Nat) (l0_2 : List (S28)) (a1 : Int) (r1 : Int) (r2 : Int) (r3 : List (S28)) (r4 : Int) (w : World) (hr0_2 : Kd.C k28 w A0_2 l0_2.length l0_2) (hc0_2 : l0_2.length ≤ c0_2) (h : board_Pass.f k a0_0 a0_1 l0_2 a1 = some (r1, r2, r3, r4)) :
 Calls Try.prog 19 #[.agg #[.int .i64 a0_0, .int .i64 a0_1, .slice A0_2 l0_2.length c0_2], .int .i64 a1] w fun e w' => ∃ v2_ : Value, e = .returned (.tuple #[.agg #[.int .i64 r1, .int .i64 r2, v2_], .int .i64 r4]) ∧ Kd.R k28 28 w' w.heap.size (fun _ => True) v2_ r3 ∧ Below w.heap.size w w' := by
 have hu24 := Try.underlying24
 have hu28 := Try.underlying28
 have HR0_2 := Aside0.mk hr0_2
 have HC0_2 := Aside0.mk hc0_2
 clear hr0_2 hc0_2
 have HB := Aside0.mk (Below.refl w.heap.size w)
 have H : ((board_Is.f k a0_0 a0_1 l0_2).bind fun t168 => (if t168 = true then (if a1 < 0 then (board_Pass.j0 k a1 true a0_0 a0_1 l0_2) else (board_Pass.j0 k a1 (decide (a1 > 1000000000)) a0_0 a0_1 l0_2)) else (board_Pass.j0 k a1 true a0_0 a0_1 l0_2))) = some (r1, r2, r3, r4) := h
 clear h
 have HC3 := Aside0.mk H
 clear H
 go_enter Try.func19, Try.ntmps19
 go_upto_region 1 with (first | ((with_reducible refine gate_dst (N := 2) rfl ?_); refine box_event ?hg (N := 2) ?hd (cs := #[.int .i64 a0_0, .int .i64 a0_1, .slice A0_2 l0_2.length c0_2]) (t := 24) ?hr ?_; (case hd => rfl); (case hg => rfl); (case hr => first | (go_simp; done) | (go_simp; rfl)); intro gb166 hg w4 hbox hb; have BK166 := Aside0.mk (hbox); have GW166 := Aside0.mk ((by rw [hg]; exact (below_size HB.out) : w.heap.size ≤ gb166)); have GE166 := Aside0.mk ((by rw [hg]; exact (below_size HB.out) : w.heap.size ≤ gb166)); replace HB := Aside0.mk (below_step HB.out hb); clear hb hbox hg) | ((with_reducible refine gate_dst (N := 4) rfl ?_); refine box_event ?hg (N := 4) ?hd (cs := #[.int .i64 0, .int .i64 0, .slice none 0 0]) (t := 24) ?hr ?_; (case hd => rfl); (case hg => rfl); (case hr => first | (go_simp; done) | (go_simp; rfl)); intro gb167 hg w5 hbox hb; have BK167 := Aside0.mk (hbox); have GW167 := Aside0.mk ((by rw [hg]; exact (below_size (by repeat (with_reducible first | exact HB.out | apply pw_below_drewN | apply below_drew1 | refine below_set ?_ GE166.out))) : w.heap.size ≤ gb167)); have GE167 := Aside0.mk ((by rw [hg]; exact (below_size (by repeat (with_reducible first | exact HB.out | apply pw_below_drewN | apply below_drew1 | refine below_set ?_ GE166.out))) : w.heap.size ≤ gb167)); replace HB := Aside0.mk (below_step (by repeat (with_reducible first | exact HB.out | apply pw_below_drewN | apply below_drew1 | refine below_set ?_ GE166.out)) hb); have NB166_167 := Aside0.mk ((by rw [hg]; exact Nat.ne_of_lt (blk_lt BK166.out) : gb166 ≠ gb167)); have NB167_166 := Aside0.mk ((by rw [hg]; exact Nat.ne_of_gt (blk_lt BK166.out) : gb167 ≠ gb166)); replace BK166 := bl_ BK166 hb; clear hb hbox hg))
 (try simp only [Act.put, List.setIfInBounds_toArray, List.set_cons_zero, List.set_cons_succ])
 go_cut [9] (fun v9 wc => ∃ (kq : Nat) (x9_2 : Bool), v9 = .bool x9_2 ∧ Aside0 (board_Pass.j0 kq a1 x9_2 a0_0 a0_1 l0_2 = some (r1, r2, r3, r4)) ∧ Aside0 (kq ≤ k) ∧ Aside0 (wc.heap[gb166]? = some (.cells #[.int .i64 a0_0, .int .i64 a0_1, (.slice A0_2 l0_2.length c0_2)] 24 (0, 0))) ∧ Aside0 (wc.heap[gb167]? = some (.cells #[.int .i64 0, .int .i64 0, (.slice none 0 0)] 24 (0, 0))) ∧ Aside0 (Below w.heap.size w wc))
 case first =>
  have H := HC3.out
  clear HC3
  replace H := Option.bind_eq_some_iff.mp H
  obtain ⟨t168, A60, H⟩ := H
  try dsimp only at H
  have A6 := Aside0.mk A60
  clear A60
  by_cases c7 : t168 = true
  ·subst c7
   rw [if_pos rfl] at H; try dsimp only at H
   by_cases c8 : a1 < 0
   ·rw [if_pos c8] at H
    have c8b0 : decide (a1 < 0) = true := decide_eq_true c8
    clear c8
    (first | rw [c8b0] | (simp only [i64_w, i32_w]; rw [c8b0]) | skip)
    have H' := Aside0.mk H
    clear H
    have hnb9 := NB166_167.out
    have hnc9 := NB167_166.out
    have hcz10_0 : w5.cell? ⟨gb166, 0, none⟩ = some (.int .i64 a0_0) := (blk_cell BK166.out 0).trans rfl
    have hcz10_1 : w5.cell? ⟨gb166, 1, none⟩ = some (.int .i64 a0_1) := (blk_cell BK166.out 1).trans rfl
    have hcz10_2 : w5.cell? ⟨gb166, 2, none⟩ = some (.slice A0_2 l0_2.length c0_2) := (blk_cell BK166.out 2).trans rfl
    have hfz10_0 := blk_frozen BK166.out 0
    have hfz10_1 := blk_frozen BK166.out 1
    have hfz10_2 := blk_frozen BK166.out 2
    go_wp2_with (first | ((with_reducible refine gate_callee (f := 32) rfl ?_); refine goesL_ (some 11) rfl rfl Try.func32 (by kernel_rfl) rfl #[.agg #[.int .i64 a0_0, .int .i64 a0_1, .slice A0_2 l0_2.length c0_2]] rfl (by (try simp only [List.map_toArray, List.map_cons, List.map_nil]); first | done | rfl | (simp only [List.length_drop, List.length_take]; rfl)) ?_; (with_reducible refine (board_Is.calls k a0_0 a0_1 _ _ l0_2 true _ ?side1 ?side2 A6.out).mono ?_); (case side1 => exact (Kd.C_below HR0_2.out HB.out)); (case side2 => exact HC0_2.out); rintro e w11 ⟨rfl, hb⟩; refine ⟨_, rfl, ?_⟩; replace BK166 := bl_ BK166 hb; replace BK167 := bl_ BK167 hb; replace HB := Aside0.mk (below_step (by repeat (with_reducible first | exact HB.out | apply pw_below_drewN | apply below_drew1 | refine below_set ?_ (Aside0.out (by assumption)))) hb); (try clear hb); (try clear hb2); (try clear hk); (try clear hi)))
    go_meet
    case rel => exact ⟨_, (true), (by first | rfl | (simp; done) | (simp [*]; done)), H', ⟨by first | omega | exact Nat.le_refl _⟩, ⟨by (with_reducible repeat (first | refine blk_drewN ?_ _ | refine blk_drew ?_ | refine blk_alloc ?_ _)); exact BK166.out⟩, ⟨by (with_reducible repeat (first | refine blk_drewN ?_ _ | refine blk_drew ?_ | refine blk_alloc ?_ _)); exact BK167.out⟩, ⟨by repeat (with_reducible first | exact HB.out | apply pw_below_drewN | apply below_drew1 | refine below_set ?_ (Aside0.out (by assumption)))⟩⟩
   ·rw [if_neg c8] at H
    have c8b0 : decide (a1 < 0) = false := decide_eq_false c8
    clear c8
    (first | rw [c8b0] | (simp only [i64_w, i32_w]; rw [c8b0]) | skip)
    have H' := Aside0.mk H
    clear H
    have hnb12 := NB166_167.out
    have hnc12 := NB167_166.out
    have hcz13_0 : w5.cell? ⟨gb166, 0, none⟩ = some (.int .i64 a0_0) := (blk_cell BK166.out 0).trans rfl
    have hcz13_1 : w5.cell? ⟨gb166, 1, none⟩ = some (.int .i64 a0_1) := (blk_cell BK166.out 1).trans rfl
    have hcz13_2 : w5.cell? ⟨gb166, 2, none⟩ = some (.slice A0_2 l0_2.length c0_2) := (blk_cell BK166.out 2).trans rfl
    have hfz13_0 := blk_frozen BK166.out 0
    have hfz13_1 := blk_frozen BK166.out 1
    have hfz13_2 := blk_frozen BK166.out 2
    go_wp2_with (first | ((with_reducible refine gate_callee (f := 32) rfl ?_); refine goesL_ (some 11) rfl rfl Try.func32 (by kernel_rfl) rfl #[.agg #[.int .i64 a0_0, .int .i64 a0_1, .slice A0_2 l0_2.length c0_2]] rfl (by (try simp only [List.map_toArray, List.map_cons, List.map_nil]); first | done | rfl | (simp only [List.length_drop, List.length_take]; rfl)) ?_; (with_reducible refine (board_Is.calls k a0_0 a0_1 _ _ l0_2 true _ ?side1 ?side2 A6.out).mono ?_); (case side1 => exact (Kd.C_below HR0_2.out HB.out)); (case side2 => exact HC0_2.out); rintro e w14 ⟨rfl, hb⟩; refine ⟨_, rfl, ?_⟩; replace BK166 := bl_ BK166 hb; replace BK167 := bl_ BK167 hb; replace HB := Aside0.mk (below_step (by repeat (with_reducible first | exact HB.out | apply pw_below_drewN | apply below_drew1 | refine below_set ?_ (Aside0.out (by assumption)))) hb); (try clear hb); (try clear hb2); (try clear hk); (try clear hi)))
    go_meet
    case rel => exact ⟨_, (decide (a1 > 1000000000)), (by first | rfl | (simp; done) | (simp [*]; done)), H', ⟨by first | omega | exact Nat.le_refl _⟩, ⟨by (with_reducible repeat (first | refine blk_drewN ?_ _ | refine blk_drew ?_ | refine blk_alloc ?_ _)); exact BK166.out⟩, ⟨by (with_reducible repeat (first | refine blk_drewN ?_ _ | refine blk_drew ?_ | refine blk_alloc ?_ _)); exact BK167.out⟩, ⟨by repeat (with_reducible first | exact HB.out | apply pw_below_drewN | apply below_drew1 | refine below_set ?_ (Aside0.out (by assumption)))⟩⟩
  ·replace c7 := Bool.eq_false_iff.mpr c7
   subst c7
   rw [if_neg (show ¬ (false = true) by decide)] at H; try dsimp only at H
   have H' := Aside0.mk H
   clear H
   have hnb15 := NB166_167.out
   have hnc15 := NB167_166.out
   have hcz16_0 : w5.cell? ⟨gb166, 0, none⟩ = some (.int .i64 a0_0) := (blk_cell BK166.out 0).trans rfl
   have hcz16_1 : w5.cell? ⟨gb166, 1, none⟩ = some (.int .i64 a0_1) := (blk_cell BK166.out 1).trans rfl
   have hcz16_2 : w5.cell? ⟨gb166, 2, none⟩ = some (.slice A0_2 l0_2.length c0_2) := (blk_cell BK166.out 2).trans rfl
   have hfz16_0 := blk_frozen BK166.out 0
   have hfz16_1 := blk_frozen BK166.out 1
   have hfz16_2 := blk_frozen BK166.out 2
   go_wp2_with (first | ((with_reducible refine gate_callee (f := 32) rfl ?_); refine goesL_ (some 11) rfl rfl Try.func32 (by kernel_rfl) rfl #[.agg #[.int .i64 a0_0, .int .i64 a0_1, .slice A0_2 l0_2.length c0_2]] rfl (by (try simp only [List.map_toArray, List.map_cons, List.map_nil]); first | done | rfl | (simp only [List.length_drop, List.length_take]; rfl)) ?_; (with_reducible refine (board_Is.calls k a0_0 a0_1 _ _ l0_2 false _ ?side1 ?side2 A6.out).mono ?_); (case side1 => exact (Kd.C_below HR0_2.out HB.out)); (case side2 => exact HC0_2.out); rintro e w17 ⟨rfl, hb⟩; refine ⟨_, rfl, ?_⟩; replace BK166 := bl_ BK166 hb; replace BK167 := bl_ BK167 hb; replace HB := Aside0.mk (below_step (by repeat (with_reducible first | exact HB.out | apply pw_below_drewN | apply below_drew1 | refine below_set ?_ (Aside0.out (by assumption)))) hb); (try clear hb); (try clear hb2); (try clear hk); (try clear hi)))
   go_meet
   case rel => exact ⟨_, (true), (by first | rfl | (simp; done) | (simp [*]; done)), H', ⟨by first | omega | exact Nat.le_refl _⟩, ⟨by (with_reducible repeat (first | refine blk_drewN ?_ _ | refine blk_drew ?_ | refine blk_alloc ?_ _)); exact BK166.out⟩, ⟨by (with_reducible repeat (first | refine blk_drewN ?_ _ | refine blk_drew ?_ | refine blk_alloc ?_ _)); exact BK167.out⟩, ⟨by repeat (with_reducible first | exact HB.out | apply pw_below_drewN | apply below_drew1 | refine below_set ?_ (Aside0.out (by assumption)))⟩⟩
 case rest =>
  clear HC3
  try clear c1; try clear p2; try clear c3; try clear c7; try clear c8; try clear c8b0; try clear c9; try clear c12; try clear c15; try clear hcz10_0; try clear hcz10_1; try clear hcz10_2; try clear hcz13_0; try clear hcz13_1; try clear hcz13_2; try clear hcz16_0; try clear hcz16_1; try clear hcz16_2; try clear hfz10_0; try clear hfz10_1; try clear hfz10_2; try clear hfz13_0; try clear hfz13_1; try clear hfz13_2; try clear hfz16_0; try clear hfz16_1; try clear hfz16_2
  obtain ⟨kq, x9_2, rfl, HA, HJ2, BK166, BK167, HB⟩ := hcut
  cases kq with
  | zero => exact absurd HA.out (by simp [board_Pass.j0])
  | succ kj2 =>
   have H := HA.out
   clear HA
   simp only [board_Pass.j0] at H
   by_cases c18 : x9_2 = true
   ·subst c18
    rw [if_pos rfl] at H; try dsimp only at H
    simp only [Option.some.injEq, Prod.mk.injEq] at H
    obtain ⟨rfl, rfl, rfl, rfl⟩ := H
    have hnb19 := NB167_166.out
    have hnc19 := NB166_167.out
    have hcz20_0 : wc.cell? ⟨gb167, 0, none⟩ = some (.int .i64 0) := (blk_cell BK167.out 0).trans rfl
    have hcz20_1 : wc.cell? ⟨gb167, 1, none⟩ = some (.int .i64 0) := (blk_cell BK167.out 1).trans rfl
    have hcz20_2 : wc.cell? ⟨gb167, 2, none⟩ = some (.slice none 0 0) := (blk_cell BK167.out 2).trans rfl
    have hfz20_0 := blk_frozen BK167.out 0
    have hfz20_1 := blk_frozen BK167.out 1
    have hfz20_2 := blk_frozen BK167.out 2
    go_wp2
    refine bodyPost_ret (results_ct rfl _ _ gb167 24 #[.int .i64 0, .int .i64 0, .slice none 0 0] (0, 0) _ rfl (by refine blk_put (cs := #[.int .i64 0, .int .i64 0, .slice none 0 0]) ?_ 2 _ rfl; refine blk_put (cs := #[.int .i64 0, .int .i64 0, .slice none 0 0]) ?_ 1 _ rfl; refine blk_put (cs := #[.int .i64 0, .int .i64 0, .slice none 0 0]) ?_ 0 _ rfl; exact BK167.out) Try.underlying24 rfl (by kernel_rfl)) rfl ?_
    exact ⟨_, by first | rfl | (simp [errW_none, errW_some] <;> rfl) | (simp [*, errW_none, errW_some] <;> rfl), by first | exact Kd.R_nil _ _ _ _ _ | exact Kd.N_nil _ _ _ _ _ | exact Kd.V_nil _ _ _ _ _ | exact Kd.Q_nil _ _ _ _ _ | exact Kd.S_nil _ _ _ _ _, by repeat (with_reducible first | exact HB.out | apply pw_below_drewN | apply below_drew1 | refine below_set ?_ (Aside0.out (by assumption)))⟩
   ·replace c18 := Bool.eq_false_iff.mpr c18
    subst c18
    rw [if_neg (show ¬ (false = true) by decide)] at H; try dsimp only at H
    by_cases c21 : a1 < a0_1
    ·rw [if_pos c21] at H
     have c21b0 : decide (a1 < a0_1) = true := decide_eq_true c21
     clear c21
     simp only [Option.some.injEq, Prod.mk.injEq] at H
     obtain ⟨rfl, rfl, rfl, rfl⟩ := H
     have hnb22 := NB166_167.out
     have hnc22 := NB167_166.out
     have hcz23_0 : wc.cell? ⟨gb166, 0, none⟩ = some (.int .i64 a0_0) := (blk_cell BK166.out 0).trans rfl
     have hcz23_1 : wc.cell? ⟨gb166, 1, none⟩ = some (.int .i64 a0_1) := (blk_cell BK166.out 1).trans rfl
     have hcz23_2 : wc.cell? ⟨gb166, 2, none⟩ = some (.slice A0_2 l0_2.length c0_2) := (blk_cell BK166.out 2).trans rfl
     have hfz23_0 := blk_frozen BK166.out 0
     have hfz23_1 := blk_frozen BK166.out 1
     have hfz23_2 := blk_frozen BK166.out 2
     have hcz24_0 : wc.cell? ⟨gb167, 0, none⟩ = some (.int .i64 0) := (blk_cell BK167.out 0).trans rfl
     have hcz24_1 : wc.cell? ⟨gb167, 1, none⟩ = some (.int .i64 0) := (blk_cell BK167.out 1).trans rfl
     have hcz24_2 : wc.cell? ⟨gb167, 2, none⟩ = some (.slice none 0 0) := (blk_cell BK167.out 2).trans rfl
     have hfz24_0 := blk_frozen BK167.out 0
     have hfz24_1 := blk_frozen BK167.out 1
     have hfz24_2 := blk_frozen BK167.out 2
     go_wp2
     refine bodyPost_ret (results_ct rfl _ _ gb167 24 #[.int .i64 0, .int .i64 0, .slice none 0 0] (0, 0) _ rfl (by refine blk_put (cs := #[.int .i64 0, .int .i64 0, .slice none 0 0]) ?_ 2 _ rfl; refine blk_put (cs := #[.int .i64 0, .int .i64 0, .slice none 0 0]) ?_ 1 _ rfl; refine blk_put (cs := #[.int .i64 0, .int .i64 0, .slice none 0 0]) ?_ 0 _ rfl; exact BK167.out) Try.underlying24 rfl (by kernel_rfl)) rfl ?_
     exact ⟨_, by first | rfl | (simp [errW_none, errW_some] <;> rfl) | (simp [*, errW_none, errW_some] <;> rfl), by first | exact Kd.R_nil _ _ _ _ _ | exact Kd.N_nil _ _ _ _ _ | exact Kd.V_nil _ _ _ _ _ | exact Kd.Q_nil _ _ _ _ _ | exact Kd.S_nil _ _ _ _ _, by repeat (with_reducible first | exact HB.out | apply pw_below_drewN | apply below_drew1 | refine below_set ?_ (Aside0.out (by assumption)))⟩
    ·rw [if_neg c21] at H
     have c21b0 : decide (a1 < a0_1) = false := decide_eq_false c21
     clear c21
     have H' := Aside0.mk H
     clear H
     have hnb25 := NB166_167.out
     have hnc25 := NB167_166.out
     have hcz26_0 : wc.cell? ⟨gb166, 0, none⟩ = some (.int .i64 a0_0) := (blk_cell BK166.out 0).trans rfl
     have hcz26_1 : wc.cell? ⟨gb166, 1, none⟩ = some (.int .i64 a0_1) := (blk_cell BK166.out 1).trans rfl
     have hcz26_2 : wc.cell? ⟨gb166, 2, none⟩ = some (.slice A0_2 l0_2.length c0_2) := (blk_cell BK166.out 2).trans rfl
     have hfz26_0 := blk_frozen BK166.out 0
     have hfz26_1 := blk_frozen BK166.out 1
     have hfz26_2 := blk_frozen BK166.out 2
     go_wp2_with (first | ((with_reducible refine gate_dst (N := 6) rfl ?_); refine box_event ?hg (N := 6) ?hd (cs := #[.int .i64 0, .int .i64 0, .slice none 0 0]) (t := 24) ?hr ?_; (case hd => rfl); (case hg => rfl); (case hr => first | (go_simp; done) | (go_simp; rfl)); intro gb169 hg w27 hbox hb; have BK169 := Aside0.mk (hbox); have GW169 := Aside0.mk ((by rw [hg]; exact (below_size (by repeat (with_reducible first | exact HB.out | apply pw_below_drewN | apply below_drew1 | refine below_set ?_ (Aside0.out (by assumption))))) : w.heap.size ≤ gb169)); have GE169 := Aside0.mk ((by rw [hg]; exact (below_size (by repeat (with_reducible first | exact HB.out | apply pw_below_drewN | apply below_drew1 | refine below_set ?_ (Aside0.out (by assumption))))) : w.heap.size ≤ gb169)); replace HB := Aside0.mk (below_step (by repeat (with_reducible first | exact HB.out | apply pw_below_drewN | apply below_drew1 | refine below_set ?_ (Aside0.out (by assumption)))) hb); have NB166_169 := Aside0.mk ((by rw [hg]; exact Nat.ne_of_lt (blk_lt BK166.out) : gb166 ≠ gb169)); have NB169_166 := Aside0.mk ((by rw [hg]; exact Nat.ne_of_gt (blk_lt BK166.out) : gb169 ≠ gb166)); replace BK166 := bl_ BK166 hb; have NB167_169 := Aside0.mk ((by rw [hg]; exact Nat.ne_of_lt (blk_lt BK167.out) : gb167 ≠ gb169)); have NB169_167 := Aside0.mk ((by rw [hg]; exact Nat.ne_of_gt (blk_lt BK167.out) : gb169 ≠ gb167)); replace BK167 := bl_ BK167 hb; clear hb hbox hg; have hnb28 := NB169_166.out; have hnc28 := NB166_169.out; have hnb29 := NB169_167.out; have hnc29 := NB167_169.out; have hcz30_0 : w27.cell? ⟨gb169, 0, none⟩ = some (.int .i64 0) := (blk_cell BK169.out 0).trans rfl; have hcz30_1 : w27.cell? ⟨gb169, 1, none⟩ = some (.int .i64 0) := (blk_cell BK169.out 1).trans rfl; have hcz30_2 : w27.cell? ⟨gb169, 2, none⟩ = some (.slice none 0 0) := (blk_cell BK169.out 2).trans rfl; have hfz30_0 := blk_frozen BK169.out 0; have hfz30_1 := blk_frozen BK169.out 1; have hfz30_2 := blk_frozen BK169.out 2; have hcz31_0 : w27.cell? ⟨gb166, 0, none⟩ = some (.int .i64 a0_0) := (blk_cell BK166.out 0).trans rfl; have hcz31_1 : w27.cell? ⟨gb166, 1, none⟩ = some (.int .i64 a0_1) := (blk_cell BK166.out 1).trans rfl; have hcz31_2 : w27.cell? ⟨gb166, 2, none⟩ = some (.slice A0_2 l0_2.length c0_2) := (blk_cell BK166.out 2).trans rfl; have hfz31_0 := blk_frozen BK166.out 0; have hfz31_1 := blk_frozen BK166.out 1; have hfz31_2 := blk_frozen BK166.out 2))
     (try simp only [Act.put, List.setIfInBounds_toArray, List.set_cons_zero, List.set_cons_succ])
     go_loopg [35] kj2 (fun kq v35 w' => ∃ (x35_2 : Int) (x170002_2 : List (S28)) (u170002 : Value), v35 = .int .i64 x35_2 ∧ Aside0 (board_Pass.l0 kq a1 l0_2 (l0_2.length : Int) x35_2 a0_0 a1 x170002_2 = some (r1, r2, r3, r4)) ∧ Aside0 (kq ≤ kj2) ∧ Aside0 (Kd.R k28 28 w' w.heap.size (fun _ => True) u170002 x170002_2) ∧ Aside0 (w'.heap[gb166]? = some (.cells #[.int .i64 a0_0, .int .i64 a0_1, (.slice A0_2 l0_2.length c0_2)] 24 (0, 0))) ∧ Aside0 (w'.heap[gb167]? = some (.cells #[.int .i64 0, .int .i64 0, (.slice none 0 0)] 24 (0, 0))) ∧ Aside0 (w'.heap[gb169]? = some (.cells #[.int .i64 a0_0, .int .i64 a1, u170002] 24 (0, 0))) ∧ Aside0 (Below w.heap.size w w'))
     case atStart => exact ⟨(0), (([] : List (S28))), (.slice none 0 0), (by first | rfl | (simp; done) | (simp [*]; done)), H', ⟨Nat.le_refl _⟩, ⟨by first | exact Kd.R_nil _ _ _ _ _ | exact Kd.N_nil _ _ _ _ _ | exact Kd.V_nil _ _ _ _ _ | exact Kd.Q_nil _ _ _ _ _ | exact Kd.S_nil _ _ _ _ _⟩, ⟨by (with_reducible repeat (first | refine blk_drewN ?_ _ | refine blk_drew ?_ | refine blk_alloc ?_ _)); refine blk_far ?_ NB166_169.out _; (with_reducible repeat (first | refine blk_drewN ?_ _ | refine blk_drew ?_ | refine blk_alloc ?_ _)); refine blk_far ?_ NB166_169.out _; (with_reducible repeat (first | refine blk_drewN ?_ _ | refine blk_drew ?_ | refine blk_alloc ?_ _)); refine blk_far ?_ NB166_169.out _; (with_reducible repeat (first | refine blk_drewN ?_ _ | refine blk_drew ?_ | refine blk_alloc ?_ _)); exact BK166.out⟩, ⟨by (with_reducible repeat (first | refine blk_drewN ?_ _ | refine blk_drew ?_ | refine blk_alloc ?_ _)); refine blk_far ?_ NB167_169.out _; (with_reducible repeat (first | refine blk_drewN ?_ _ | refine blk_drew ?_ | refine blk_alloc ?_ _)); refine blk_far ?_ NB167_169.out _; (with_reducible repeat (first | refine blk_drewN ?_ _ | refine blk_drew ?_ | refine blk_alloc ?_ _)); refine blk_far ?_ NB167_169.out _; (with_reducible repeat (first | refine blk_drewN ?_ _ | refine blk_drew ?_ | refine blk_alloc ?_ _)); exact BK167.out⟩, ⟨by (with_reducible repeat (first | refine blk_drewN ?_ _ | refine blk_drew ?_ | refine blk_alloc ?_ _)); refine blk_put (cs := #[.int .i64 a0_0, .int .i64 a1, .slice none 0 0]) ?_ 2 _ rfl; (with_reducible repeat (first | refine blk_drewN ?_ _ | refine blk_drew ?_ | refine blk_alloc ?_ _)); refine blk_put (cs := #[.int .i64 a0_0, .int .i64 0, .slice none 0 0]) ?_ 1 _ rfl; (with_reducible repeat (first | refine blk_drewN ?_ _ | refine blk_drew ?_ | refine blk_alloc ?_ _)); refine blk_put (cs := #[.int .i64 0, .int .i64 0, .slice none 0 0]) ?_ 0 _ rfl; (with_reducible repeat (first | refine blk_drewN ?_ _ | refine blk_drew ?_ | refine blk_alloc ?_ _)); exact BK169.out⟩, ⟨by repeat (with_reducible first | exact HB.out | apply pw_below_drewN | apply below_drew1 | refine below_set ?_ (Aside0.out (by assumption)))⟩⟩
     case round =>
      clear H'
      try clear c1; try clear c2; try clear p2; try clear c3; try clear c7; try clear c8; try clear c8b0; try clear c9; try clear c12; try clear c15; try clear c18; try clear c19; try clear c21; try clear c21b0; try clear c22; try clear c25; try clear c28; try clear c29; try clear hcz10_0; try clear hcz10_1; try clear hcz10_2; try clear hcz13_0; try clear hcz13_1; try clear hcz13_2; try clear hcz16_0; try clear hcz16_1; try clear hcz16_2; try clear hcz20_0; try clear hcz20_1; try clear hcz20_2; try clear hcz23_0; try clear hcz23_1; try clear hcz23_2; try clear hcz24_0; try clear hcz24_1; try clear hcz24_2; try clear hcz26_0; try clear hcz26_1; try clear hcz26_2; try clear hcz30_0; try clear hcz30_1; try clear hcz30_2; try clear hcz31_0; try clear hcz31_1; try clear hcz31_2; try clear hfz10_0; try clear hfz10_1; try clear hfz10_2; try clear hfz13_0; try clear hfz13_1; try clear hfz13_2; try clear hfz16_0; try clear hfz16_1; try clear hfz16_2; try clear hfz20_0; try clear hfz20_1; try clear hfz20_2; try clear hfz23_0; try clear hfz23_1; try clear hfz23_2; try clear hfz24_0; try clear hfz24_1; try clear hfz24_2; try clear hfz26_0; try clear hfz26_1; try clear hfz26_2; try clear hfz30_0; try clear hfz30_1; try clear hfz30_2; try clear hfz31_0; try clear hfz31_1; try clear hfz31_2; try clear p2
      obtain ⟨x35_2, x170002_2, u170002, rfl, HA, HK2, HO_170002, BK166, BK167, BK169, HB⟩ := hrel
      cases gk with
      | zero => exact absurd HA.out (by simp [board_Pass.l0])
      | succ k2 =>
       have H := HA.out
       clear HA
       simp only [board_Pass.l0] at H
       by_cases c32 : x35_2 < (l0_2.length : Int)
       ·rw [if_pos c32] at H
        have c32b0 : decide (x35_2 < (l0_2.length : Int)) = true := decide_eq_true c32
        clear c32
        by_cases c33 : 0 ≤ x35_2
        ·rw [if_pos c33] at H
         have c33b0 : decide (0 ≤ x35_2) = true := decide_eq_true c33
         clear c33
         by_cases c34 : x35_2 < (l0_2.length : Int)
         ·rw [if_pos c34] at H
          have c34b0 : decide (x35_2 < (l0_2.length : Int)) = true := decide_eq_true c34
          clear c34
          replace H := Option.bind_eq_some_iff.mp H
          obtain ⟨⟨t172, t173, t174, t175, t176, t177⟩, A350, H⟩ := H
          try dsimp only at H
          have A35 := Aside0.mk A350
          clear A350
          by_cases c36 : x170002_2.length < 2932031007402
          ·rw [if_pos c36] at H
           have LMc36 := Aside0.mk c36
           clear c36
           obtain ⟨y178, hy178⟩ : ∃ y_ : List (S28), y_ = (x170002_2 ++ [(⟨(⟨t172, t173⟩ : S26), t174, t175, t176, t177⟩ : S28)]) := ⟨_, rfl⟩
           replace H : (board_Pass.l0 k2 a1 l0_2 (l0_2.length : Int) (wrap64 (x35_2 + 1)) a0_0 a1 y178) = some (r1, r2, r3, r4) := by first | (rw [hy178]; with_reducible exact H) | (have H2_ := (Option.bind_some _ _).symm.trans H; rw [hy178]; with_reducible exact H2_) | (have H2_ := (Option.bind_some _ _).symm.trans H; with_reducible exact H2_) | with_reducible exact H | (rw [hy178]; exact H) | exact H
           have Ny178 := Aside0.mk hy178
           clear hy178
           have H' := Aside0.mk H
           clear H
           have p170 : 0 ≤ (x35_2 : Int) := of_decide_eq_true (by first | (with_reducible assumption) | assumption)
           have q170 : x35_2 < (l0_2.length : Int) := of_decide_eq_true (by first | (with_reducible assumption) | assumption)
           obtain ⟨ad170, e170, hx170_0, hx170_1, hx170_2, hx170_3, hx170_4, hx170_5⟩ := at_T28 HR0_2.out x35_2 p170 q170
           cases e170
           replace hx170_0 := (HB.out.cell (World.block_lt_of_cell? w _ hx170_0)).trans hx170_0
           replace hx170_1 := (HB.out.cell (World.block_lt_of_cell? w _ hx170_1)).trans hx170_1
           replace hx170_2 := (HB.out.cell (World.block_lt_of_cell? w _ hx170_2)).trans hx170_2
           replace hx170_3 := (HB.out.cell (World.block_lt_of_cell? w _ hx170_3)).trans hx170_3
           replace hx170_4 := (HB.out.cell (World.block_lt_of_cell? w _ hx170_4)).trans hx170_4
           replace hx170_5 := (HB.out.cell (World.block_lt_of_cell? w _ hx170_5)).trans hx170_5
           replace p170 := eq_true p170
           replace q170 := eq_true q170
           try go_wp2_with (first | ((with_reducible refine gate_dst (N := 8) rfl ?_); refine box_event ?hg (N := 8) ?hd (cs := #[.int .i64 0, .int .i64 0, .int .i64 0, .int .i64 0, .int .i64 0, .int .i64 0]) (t := 28) ?hr ?_; (case hd => rfl); (case hg => rfl); (case hr => first | (go_simp; done) | (go_simp; rfl)); intro gb171 hg w37 hbox hb; replace HO_170002 := Aside0.mk (Kd.R_below (Kd.R_elderB (HO_170002.out) gb171 (Nat.le_of_eq hg.symm)) hb); have BK171 := Aside0.mk (hbox); have GW171 := Aside0.mk ((by rw [hg]; exact (below_size (by repeat (with_reducible first | exact HB.out | apply pw_below_drewN | apply below_drew1 | refine below_set ?_ (Aside0.out (by assumption))))) : w.heap.size ≤ gb171)); have GE171 := Aside0.mk ((by rw [hg]; exact (below_size (by repeat (with_reducible first | exact HB.out | apply pw_below_drewN | apply below_drew1 | refine below_set ?_ (Aside0.out (by assumption))))) : w.heap.size ≤ gb171)); replace HB := Aside0.mk (below_step (by repeat (with_reducible first | exact HB.out | apply pw_below_drewN | apply below_drew1 | refine below_set ?_ (Aside0.out (by assumption)))) hb); have NB166_171 := Aside0.mk ((by rw [hg]; exact Nat.ne_of_lt (blk_lt BK166.out) : gb166 ≠ gb171)); have NB171_166 := Aside0.mk ((by rw [hg]; exact Nat.ne_of_gt (blk_lt BK166.out) : gb171 ≠ gb166)); replace BK166 := bl_ BK166 hb; have NB167_171 := Aside0.mk ((by rw [hg]; exact Nat.ne_of_lt (blk_lt BK167.out) : gb167 ≠ gb171)); have NB171_167 := Aside0.mk ((by rw [hg]; exact Nat.ne_of_gt (blk_lt BK167.out) : gb171 ≠ gb167)); replace BK167 := bl_ BK167 hb; have NB169_171 := Aside0.mk ((by rw [hg]; exact Nat.ne_of_lt (blk_lt BK169.out) : gb169 ≠ gb171)); have NB171_169 := Aside0.mk ((by rw [hg]; exact Nat.ne_of_gt (blk_lt BK169.out) : gb171 ≠ gb169)); replace BK169 := bl_ BK169 hb; clear hb hbox hg; have hnb38 := NB171_166.out; have hnc38 := NB166_171.out; have hnb39 := NB171_167.out; have hnc39 := NB167_171.out; have hnb40 := NB171_169.out; have hnc40 := NB169_171.out; have hcz41_0 : w37.cell? ⟨gb171, 0, none⟩ = some (.int .i64 0) := (blk_cell BK171.out 0).trans rfl; have hcz41_1 : w37.cell? ⟨gb171, 1, none⟩ = some (.int .i64 0) := (blk_cell BK171.out 1).trans rfl; have hcz41_2 : w37.cell? ⟨gb171, 2, none⟩ = some (.int .i64 0) := (blk_cell BK171.out 2).trans rfl; have hcz41_3 : w37.cell? ⟨gb171, 3, none⟩ = some (.int .i64 0) := (blk_cell BK171.out 3).trans rfl; have hcz41_4 : w37.cell? ⟨gb171, 4, none⟩ = some (.int .i64 0) := (blk_cell BK171.out 4).trans rfl; have hcz41_5 : w37.cell? ⟨gb171, 5, none⟩ = some (.int .i64 0) := (blk_cell BK171.out 5).trans rfl; have hfz41_0 := blk_frozen BK171.out 0; have hfz41_1 := blk_frozen BK171.out 1; have hfz41_2 := blk_frozen BK171.out 2; have hfz41_3 := blk_frozen BK171.out 3; have hfz41_4 := blk_frozen BK171.out 4; have hfz41_5 := blk_frozen BK171.out 5))
           have n0_ : Aside0 (Kd.R k28 28 ((((((w37.setCell ⟨gb171, 0, none⟩ (.int .i64 ((rd_T28 l0_2 x35_2).f0.f0))).setCell ⟨gb171, 1, none⟩ (.int .i64 ((rd_T28 l0_2 x35_2).f0.f1))).setCell ⟨gb171, 2, none⟩ (.int .i64 ((rd_T28 l0_2 x35_2).f1))).setCell ⟨gb171, 3, none⟩ (.int .i64 ((rd_T28 l0_2 x35_2).f2))).setCell ⟨gb171, 4, none⟩ (.int .i64 ((rd_T28 l0_2 x35_2).f3))).setCell ⟨gb171, 5, none⟩ (.int .i64 ((rd_T28 l0_2 x35_2).f4))) w.heap.size (fun k_ => k_ ≠ gb171) u170002 x170002_2) := ⟨by (with_reducible repeat (first | apply Kd.R_alloc | apply Kd.R_drewN | apply Kd.R_drew)); exact Kd.R_mono (rf6 (Kd.R_mono HO_170002.out (fun k_ hk => (⟨hk, hk.2⟩ : _ ∧ k_ ≠ gb171))) (fun _ hk => hk.2) (.int .i64 ((rd_T28 l0_2 x35_2).f0.f0)) (.int .i64 ((rd_T28 l0_2 x35_2).f0.f1)) (.int .i64 ((rd_T28 l0_2 x35_2).f1)) (.int .i64 ((rd_T28 l0_2 x35_2).f2)) (.int .i64 ((rd_T28 l0_2 x35_2).f3)) (.int .i64 ((rd_T28 l0_2 x35_2).f4))) (fun _ hk => hk.1.2)⟩
           have n1_ : Aside0 (((((((w37.setCell ⟨gb171, 0, none⟩ (.int .i64 ((rd_T28 l0_2 x35_2).f0.f0))).setCell ⟨gb171, 1, none⟩ (.int .i64 ((rd_T28 l0_2 x35_2).f0.f1))).setCell ⟨gb171, 2, none⟩ (.int .i64 ((rd_T28 l0_2 x35_2).f1))).setCell ⟨gb171, 3, none⟩ (.int .i64 ((rd_T28 l0_2 x35_2).f2))).setCell ⟨gb171, 4, none⟩ (.int .i64 ((rd_T28 l0_2 x35_2).f3))).setCell ⟨gb171, 5, none⟩ (.int .i64 ((rd_T28 l0_2 x35_2).f4))).heap[gb166]? = some (.cells #[.int .i64 a0_0, .int .i64 a0_1, .slice (some ad170) l0_2.length c0_2] 24 (0, 0))) := ⟨by refine blk_far ?_ NB166_171.out _; refine blk_far ?_ NB166_171.out _; refine blk_far ?_ NB166_171.out _; refine blk_far ?_ NB166_171.out _; refine blk_far ?_ NB166_171.out _; refine blk_far ?_ NB166_171.out _; exact BK166.out⟩
           have n2_ : Aside0 (((((((w37.setCell ⟨gb171, 0, none⟩ (.int .i64 ((rd_T28 l0_2 x35_2).f0.f0))).setCell ⟨gb171, 1, none⟩ (.int .i64 ((rd_T28 l0_2 x35_2).f0.f1))).setCell ⟨gb171, 2, none⟩ (.int .i64 ((rd_T28 l0_2 x35_2).f1))).setCell ⟨gb171, 3, none⟩ (.int .i64 ((rd_T28 l0_2 x35_2).f2))).setCell ⟨gb171, 4, none⟩ (.int .i64 ((rd_T28 l0_2 x35_2).f3))).setCell ⟨gb171, 5, none⟩ (.int .i64 ((rd_T28 l0_2 x35_2).f4))).heap[gb167]? = some (.cells #[.int .i64 0, .int .i64 0, .slice none 0 0] 24 (0, 0))) := ⟨by refine blk_far ?_ NB167_171.out _; refine blk_far ?_ NB167_171.out _; refine blk_far ?_ NB167_171.out _; refine blk_far ?_ NB167_171.out _; refine blk_far ?_ NB167_171.out _; refine blk_far ?_ NB167_171.out _; exact BK167.out⟩
           have n3_ : Aside0 (((((((w37.setCell ⟨gb171, 0, none⟩ (.int .i64 ((rd_T28 l0_2 x35_2).f0.f0))).setCell ⟨gb171, 1, none⟩ (.int .i64 ((rd_T28 l0_2 x35_2).f0.f1))).setCell ⟨gb171, 2, none⟩ (.int .i64 ((rd_T28 l0_2 x35_2).f1))).setCell ⟨gb171, 3, none⟩ (.int .i64 ((rd_T28 l0_2 x35_2).f2))).setCell ⟨gb171, 4, none⟩ (.int .i64 ((rd_T28 l0_2 x35_2).f3))).setCell ⟨gb171, 5, none⟩ (.int .i64 ((rd_T28 l0_2 x35_2).f4))).heap[gb169]? = some (.cells #[.int .i64 a0_0, .int .i64 a1, u170002] 24 (0, 0))) := ⟨by refine blk_far ?_ NB169_171.out _; refine blk_far ?_ NB169_171.out _; refine blk_far ?_ NB169_171.out _; refine blk_far ?_ NB169_171.out _; refine blk_far ?_ NB169_171.out _; refine blk_far ?_ NB169_171.out _; exact BK169.out⟩
           have n4_ : Aside0 (((((((w37.setCell ⟨gb171, 0, none⟩ (.int .i64 ((rd_T28 l0_2 x35_2).f0.f0))).setCell ⟨gb171, 1, none⟩ (.int .i64 ((rd_T28 l0_2 x35_2).f0.f1))).setCell ⟨gb171, 2, none⟩ (.int .i64 ((rd_T28 l0_2 x35_2).f1))).setCell ⟨gb171, 3, none⟩ (.int .i64 ((rd_T28 l0_2 x35_2).f2))).setCell ⟨gb171, 4, none⟩ (.int .i64 ((rd_T28 l0_2 x35_2).f3))).setCell ⟨gb171, 5, none⟩ (.int .i64 ((rd_T28 l0_2 x35_2).f4))).heap[gb171]? = some (.cells #[.int .i64 ((rd_T28 l0_2 x35_2).f0.f0), .int .i64 ((rd_T28 l0_2 x35_2).f0.f1), .int .i64 ((rd_T28 l0_2 x35_2).f1), .int .i64 ((rd_T28 l0_2 x35_2).f2), .int .i64 ((rd_T28 l0_2 x35_2).f3), .int .i64 ((rd_T28 l0_2 x35_2).f4)] 28 (0, 0))) := ⟨by refine blk_put (cs := #[.int .i64 ((rd_T28 l0_2 x35_2).f0.f0), .int .i64 ((rd_T28 l0_2 x35_2).f0.f1), .int .i64 ((rd_T28 l0_2 x35_2).f1), .int .i64 ((rd_T28 l0_2 x35_2).f2), .int .i64 ((rd_T28 l0_2 x35_2).f3), .int .i64 0]) ?_ 5 _ rfl; refine blk_put (cs := #[.int .i64 ((rd_T28 l0_2 x35_2).f0.f0), .int .i64 ((rd_T28 l0_2 x35_2).f0.f1), .int .i64 ((rd_T28 l0_2 x35_2).f1), .int .i64 ((rd_T28 l0_2 x35_2).f2), .int .i64 0, .int .i64 0]) ?_ 4 _ rfl; refine blk_put (cs := #[.int .i64 ((rd_T28 l0_2 x35_2).f0.f0), .int .i64 ((rd_T28 l0_2 x35_2).f0.f1), .int .i64 ((rd_T28 l0_2 x35_2).f1), .int .i64 0, .int .i64 0, .int .i64 0]) ?_ 3 _ rfl; refine blk_put (cs := #[.int .i64 ((rd_T28 l0_2 x35_2).f0.f0), .int .i64 ((rd_T28 l0_2 x35_2).f0.f1), .int .i64 0, .int .i64 0, .int .i64 0, .int .i64 0]) ?_ 2 _ rfl; refine blk_put (cs := #[.int .i64 ((rd_T28 l0_2 x35_2).f0.f0), .int .i64 0, .int .i64 0, .int .i64 0, .int .i64 0, .int .i64 0]) ?_ 1 _ rfl; refine blk_put (cs := #[.int .i64 0, .int .i64 0, .int .i64 0, .int .i64 0, .int .i64 0, .int .i64 0]) ?_ 0 _ rfl; exact BK171.out⟩
           have n5_ : Aside0 (Below w.heap.size w ((((((w37.setCell ⟨gb171, 0, none⟩ (.int .i64 ((rd_T28 l0_2 x35_2).f0.f0))).setCell ⟨gb171, 1, none⟩ (.int .i64 ((rd_T28 l0_2 x35_2).f0.f1))).setCell ⟨gb171, 2, none⟩ (.int .i64 ((rd_T28 l0_2 x35_2).f1))).setCell ⟨gb171, 3, none⟩ (.int .i64 ((rd_T28 l0_2 x35_2).f2))).setCell ⟨gb171, 4, none⟩ (.int .i64 ((rd_T28 l0_2 x35_2).f3))).setCell ⟨gb171, 5, none⟩ (.int .i64 ((rd_T28 l0_2 x35_2).f4)))) := ⟨by repeat (with_reducible first | exact HB.out | apply pw_below_drewN | apply below_drew1 | refine below_set ?_ (Aside0.out (by assumption)))⟩
           (try clear HO_170002)
           (try clear BK166)
           (try clear BK167)
           (try clear BK169)
           (try clear BK171)
           (try clear HB)
           generalize ((((((w37.setCell ⟨gb171, 0, none⟩ (.int .i64 ((rd_T28 l0_2 x35_2).f0.f0))).setCell ⟨gb171, 1, none⟩ (.int .i64 ((rd_T28 l0_2 x35_2).f0.f1))).setCell ⟨gb171, 2, none⟩ (.int .i64 ((rd_T28 l0_2 x35_2).f1))).setCell ⟨gb171, 3, none⟩ (.int .i64 ((rd_T28 l0_2 x35_2).f2))).setCell ⟨gb171, 4, none⟩ (.int .i64 ((rd_T28 l0_2 x35_2).f3))).setCell ⟨gb171, 5, none⟩ (.int .i64 ((rd_T28 l0_2 x35_2).f4))) = w42 at n0_ n1_ n2_ n3_ n4_ n5_ ⊢
           have HO_170002 := n0_
           have BK166 := n1_
           have BK167 := n2_
           have BK169 := n3_
           have BK171 := n4_
           have HB := n5_
           clear n0_ n1_ n2_ n3_ n4_ n5_
           replace HO_170002 := Aside0.mk (Kd.R_drew HO_170002.out)
           replace BK166 := Aside0.mk (blk_drew BK166.out)
           replace BK167 := Aside0.mk (blk_drew BK167.out)
           replace BK169 := Aside0.mk (blk_drew BK169.out)
           replace BK171 := Aside0.mk (blk_drew BK171.out)
           replace HB := Aside0.mk (below_drew1 HB.out)
           refine start_ (n := 9) (S := fun w' => w'.cell? ⟨gb169, 0, none⟩ = some (.int .i64 a0_0) ∧ w'.cell? ⟨gb169, 1, none⟩ = some (.int .i64 a1) ∧ w'.cell? ⟨gb169, 2, none⟩ = some (u170002) ∧ w'.cell? ⟨gb171, 0, none⟩ = some (.int .i64 ((rd_T28 l0_2 x35_2).f0.f0)) ∧ w'.cell? ⟨gb171, 1, none⟩ = some (.int .i64 ((rd_T28 l0_2 x35_2).f0.f1)) ∧ w'.cell? ⟨gb171, 2, none⟩ = some (.int .i64 ((rd_T28 l0_2 x35_2).f1)) ∧ w'.cell? ⟨gb171, 3, none⟩ = some (.int .i64 ((rd_T28 l0_2 x35_2).f2)) ∧ w'.cell? ⟨gb171, 4, none⟩ = some (.int .i64 ((rd_T28 l0_2 x35_2).f3)) ∧ w'.cell? ⟨gb171, 5, none⟩ = some (.int .i64 ((rd_T28 l0_2 x35_2).f4))) (ds := [8]) #[false, false, false, false, false, false, false, false, false] (by kernel_rfl) rfl rfl ⟨(blk_cell BK169.out 0).trans rfl, (blk_cell BK169.out 1).trans rfl, (blk_cell BK169.out 2).trans rfl, (blk_cell BK171.out 0).trans rfl, (blk_cell BK171.out 1).trans rfl, (blk_cell BK171.out 2).trans rfl, (blk_cell BK171.out 3).trans rfl, (blk_cell BK171.out 4).trans rfl, (blk_cell BK171.out 5).trans rfl⟩ (fun hHeld => ?_); refine with_tabW board_Pass.tab9 board_Pass.bits9 (fun HT_ HW_ => ?_)
           generalize w42.drew = w43 at HO_170002 BK166 BK167 BK169 BK171 HB hHeld ⊢
           have Q_ := Qs.mk (n := 9) [(0, 0, 39, 1), (0, 3, 42, 9), (2, 1, 40, 11), (2, 2, 41, 15)]
           iterate 4 (first | (obtain ⟨q_, Q_⟩ := Qs.p Q_; refine pureQ_ q_ (v := ?_) (a' := ?_) rfl rfl (any_of HT_.out (by kernel_rfl)) (fun _ _ _ h => h) (Or.inl ⟨by rfl, ?_⟩) ?_ ?_; rotate_left; (intro w'; go_simp; with_reducible rfl); rotate_left; (simp only [Act.put, List.setIfInBounds_toArray, List.set_cons_zero, List.set_cons_succ, i64_w, i32_w]; rfl)) | (obtain ⟨q_, Q_⟩ := Qs.t Q_; refine takeQ_ q_ (v := ?_) (a' := ?_) rfl rfl (take_ofW HT_.out HW_.out (by kernel_rfl)) (fun _ _ _ h => h) (Or.inl ⟨by rfl, ?_⟩) hHeld ?_ ?_; rotate_left; (rintro w' ⟨s0, s1, s2, s3, s4, s5, s6, s7, s8⟩; go_simp; with_reducible rfl); rotate_left; (simp only [Act.put, List.setIfInBounds_toArray, List.set_cons_zero, List.set_cons_succ, i64_w, i32_w]; rfl)))
           clear Q_
           refine one_ (i := 4) (N := some 43) (dn_ 5 9) rfl rfl (one_of HT_.out (by kernel_rfl)) (by decide) (fun K hK => ?_)
           refine goes_ Try.func34 (by kernel_rfl) rfl #[.agg #[.int .i64 ((rd_T28 l0_2 x35_2).f0.f0), .int .i64 ((rd_T28 l0_2 x35_2).f0.f1), .int .i64 ((rd_T28 l0_2 x35_2).f1), .int .i64 ((rd_T28 l0_2 x35_2).f2), .int .i64 ((rd_T28 l0_2 x35_2).f3), .int .i64 ((rd_T28 l0_2 x35_2).f4)], .int .i64 a1] (by rfl) rfl rfl (by (try simp only [List.map_toArray, List.map_cons, List.map_nil]); first | done | rfl | (simp only [List.length_drop, List.length_take]; rfl)) ?_
           with_reducible refine (alarm_Pass.calls k2 ((rd_T28 l0_2 x35_2).f0.f0) ((rd_T28 l0_2 x35_2).f0.f1) ((rd_T28 l0_2 x35_2).f1) ((rd_T28 l0_2 x35_2).f2) ((rd_T28 l0_2 x35_2).f3) ((rd_T28 l0_2 x35_2).f4) a1 t172 t173 t174 t175 t176 t177 _ A35.out).mono ?_
           rintro e w44 ⟨rfl, hb⟩
           refine ⟨_, rfl, ?_⟩
           replace HO_170002 := rb_ HO_170002 hb
           replace BK166 := bl_ BK166 hb
           replace BK167 := bl_ BK167 hb
           replace BK169 := bl_ BK169 hb
           replace BK171 := bl_ BK171 hb
           replace HB := Aside0.mk (below_step (by repeat (with_reducible first | exact HB.out | apply pw_below_drewN | apply below_drew1 | refine below_set ?_ (Aside0.out (by assumption)))) hb)
           (try clear hb)
           (try clear hb2)
           (try clear hk)
           (try clear hi)
           refine hK.out _ _ ⟨(blk_cell BK169.out 0).trans rfl, (blk_cell BK169.out 1).trans rfl, (blk_cell BK169.out 2).trans rfl, (blk_cell BK171.out 0).trans rfl, (blk_cell BK171.out 1).trans rfl, (blk_cell BK171.out 2).trans rfl, (blk_cell BK171.out 3).trans rfl, (blk_cell BK171.out 4).trans rfl, (blk_cell BK171.out 5).trans rfl⟩ (fun hHeld => ?_)
           clear hK K
           refine norm_ (a' := ?_) ?_ ?_
           rotate_left
           ·show Act.put _ (some 43) _ = _
            simp only [Act.put, List.setIfInBounds_toArray, List.set_cons_zero, List.set_cons_succ, i64_w, i32_w]
            rfl
           refine one_ (i := 5) (N := some 44) (dn_ 6 9) rfl rfl (one_of HT_.out (by kernel_rfl)) (by decide) (fun K hK => ?_)
           refine value_ (w1 := ?_) (v := ?_) (by rfl) rfl ?_ ?_
           rotate_left 2
           ·go_simp
            constructor
            ·rfl
            ·rfl
           refine hK.out _ _ ⟨(blk_cell (blk_alloc BK169.out _) 0).trans rfl, (blk_cell (blk_alloc BK169.out _) 1).trans rfl, (blk_cell (blk_alloc BK169.out _) 2).trans rfl, (blk_cell (blk_alloc BK171.out _) 0).trans rfl, (blk_cell (blk_alloc BK171.out _) 1).trans rfl, (blk_cell (blk_alloc BK171.out _) 2).trans rfl, (blk_cell (blk_alloc BK171.out _) 3).trans rfl, (blk_cell (blk_alloc BK171.out _) 4).trans rfl, (blk_cell (blk_alloc BK171.out _) 5).trans rfl⟩ (fun hHeld => ?_)
           clear hK K
           refine norm_ (a' := ?_) ?_ ?_
           rotate_left
           ·show Act.put _ (some 44) _ = _
            simp only [Act.put, List.setIfInBounds_toArray, List.set_cons_zero, List.set_cons_succ, i64_w, i32_w]
            rfl
           refine one_ (i := 6) (N := some 45) (dn_ 7 9) rfl rfl (one_of HT_.out (by kernel_rfl)) (by decide) (fun K hK => ?_)
           refine Kd.R_append_step k28 (w0 := w) w.heap.size (by rfl) (.tmp 40) (.tmp 44) 22 28 (.agg #[(.int .i64 0), (.int .i64 0), (.int .i64 0), (.int .i64 0), (.int .i64 0), (.int .i64 0)]) 48 rfl Try.underlying22 info28 rfl (by decide) (by omega) u170002 x170002_2 (⟨(⟨t172, t173⟩ : S26), t174, t175, t176, t177⟩ : S28) [.int .i64 t172, .int .i64 t173, .int .i64 t174, .int .i64 t175, .int .i64 t176, .int .i64 t177] (fun k_ => k_ ≠ gb171) (fun _ => False) rfl rfl ?aP (fun _ hk => hk.elim) ?aF ?aO ?aB ?aS ?aL ?_
           (case aP => exact k28_mkM _ _ _ (⟨(⟨t172, t173⟩ : S26), t174, t175, t176, t177⟩ : S28))
           (case aB => exact (by repeat (with_reducible first | exact HB.out | apply pw_below_drewN | apply below_drew1 | refine below_set ?_ (Aside0.out (by assumption)))))
           (case aF => exact (fun k_ hk => Kd.freshB (g := gb171) (o := .cells #[.int .i64 ((rd_T28 l0_2 x35_2).f0.f0), .int .i64 ((rd_T28 l0_2 x35_2).f0.f1), .int .i64 ((rd_T28 l0_2 x35_2).f1), .int .i64 ((rd_T28 l0_2 x35_2).f2), .int .i64 ((rd_T28 l0_2 x35_2).f3), .int .i64 ((rd_T28 l0_2 x35_2).f4)] 28 (0, 0)) BK171.out k_ hk))
           (case aO => exact (HO_170002.out))
           (case aS => exact (below_size (by repeat (with_reducible first | exact HB.out | apply pw_below_drewN | apply below_drew1 | refine below_set ?_ (Aside0.out (by assumption))))))
           (case aL => have := LMc36.out; omega)
           intro v179 w45 ho hb hg hat
           rw [← Ny178.out] at ho
           replace BK166 := Aside0.mk (blk_grown (g := gb166) (o := .cells #[.int .i64 a0_0, .int .i64 a0_1, .slice (some ad170) l0_2.length c0_2] 24 (0, 0)) BK166.out hg (Kd.R_ne HO_170002.out BK166.out (by decide)))
           replace BK167 := Aside0.mk (blk_grown (g := gb167) (o := .cells #[.int .i64 0, .int .i64 0, .slice none 0 0] 24 (0, 0)) BK167.out hg (Kd.R_ne HO_170002.out BK167.out (by decide)))
           replace BK169 := Aside0.mk (blk_grown (g := gb169) (o := .cells #[.int .i64 a0_0, .int .i64 a1, u170002] 24 (0, 0)) BK169.out hg (Kd.R_ne HO_170002.out BK169.out (by decide)))
           replace BK171 := Aside0.mk (blk_grown (g := gb171) (o := .cells #[.int .i64 ((rd_T28 l0_2 x35_2).f0.f0), .int .i64 ((rd_T28 l0_2 x35_2).f0.f1), .int .i64 ((rd_T28 l0_2 x35_2).f1), .int .i64 ((rd_T28 l0_2 x35_2).f2), .int .i64 ((rd_T28 l0_2 x35_2).f3), .int .i64 ((rd_T28 l0_2 x35_2).f4)] 28 (0, 0)) BK171.out hg (Kd.R_away HO_170002.out (fun _ hk => hk)))
           replace HB := Aside0.mk (hb)
           have HO180 := Aside0.mk (ho)
           clear HO_170002
           clear ho hb hg hat
           obtain ⟨Ao46, co46, eo46⟩ := Kd.R_slice HO180.out
           (first | subst eo46 | (injection eo46 with f1_ f2_ f3_; have f4_ := f1_.symm; have f5_ := f3_.symm; clear f1_ f2_ f3_; subst f4_; subst f5_))
           refine hK.out _ _ ⟨(blk_cell BK169.out 0).trans rfl, (blk_cell BK169.out 1).trans rfl, (blk_cell BK169.out 2).trans rfl, (blk_cell BK171.out 0).trans rfl, (blk_cell BK171.out 1).trans rfl, (blk_cell BK171.out 2).trans rfl, (blk_cell BK171.out 3).trans rfl, (blk_cell BK171.out 4).trans rfl, (blk_cell BK171.out 5).trans rfl⟩ (fun hHeld => ?_)
           clear hK K
           refine norm_ (a' := ?_) ?_ ?_
           rotate_left
           ·show Act.put _ (some 45) _ = _
            simp only [Act.put, List.setIfInBounds_toArray, List.set_cons_zero, List.set_cons_succ, i64_w, i32_w]
            rfl
           refine pure_ (i := 7) (N := some 46) (v := ?_) (a' := ?_) (dn_ 8 9) rfl rfl (any_of HT_.out (by kernel_rfl)) (fun _ _ _ h => h) (Or.inl ⟨by rfl, ?_⟩) ?_ ?_
           rotate_left
           ·intro w'
            go_simp
            with_reducible rfl
           rotate_left; (simp only [Act.put, List.setIfInBounds_toArray, List.set_cons_zero, List.set_cons_succ, i64_w, i32_w]; rfl)
           refine last_ (i := 8) (N := none) #[true, true, true, true, true, true, true, true, true] rfl rfl (one_of HT_.out (by kernel_rfl)) (by decide) (fun K hK => ?_)
           have hs47 : w45.cell? ⟨gb169, 2, none⟩ = some (u170002) := (blk_cell BK169.out 2).trans rfl
           have hfs47 := blk_frozen BK169.out 2
           have hns47_0 := NB166_169.out
           have hns47_1 := NB167_169.out
           have hns47_3 := NB171_169.out
           have hms47_0 := NB169_166.out
           have hms47_1 := NB169_167.out
           have hms47_3 := NB169_171.out
           refine skip_ (w1 := ?_) (by rfl) rfl ?_ ?_
           rotate_left
           ·go_simp
            rfl
           refine hK.out _ _ ?_
           clear hK K
           refine done_ (done_of HT_.out (by kernel_rfl)) ?_
           try go_wp2
           go_roundg k2
           case measure => have := HJ2.out; have := HK2.out; omega
           case rel => exact ⟨(wrap64 (x35_2 + 1)), (y178), (.slice Ao46 y178.length co46), (by first | rfl | (simp; done) | (simp [*]; done)), H', ⟨by have := HJ2.out; have := HK2.out; omega⟩, ⟨by (with_reducible repeat (first | apply Kd.R_alloc | apply Kd.R_drewN | apply Kd.R_drew)); exact Kd.R_mono (Kd.R_far (p := ⟨gb169, 2, none⟩) (Kd.R_types HO180.out BK169.out (by decide)) (fun _ hk => hk.2) (.slice Ao46 y178.length co46)) (fun _ hk => trivial)⟩, ⟨by (with_reducible repeat (first | refine blk_drewN ?_ _ | refine blk_drew ?_ | refine blk_alloc ?_ _)); refine blk_far ?_ NB166_169.out _; (with_reducible repeat (first | refine blk_drewN ?_ _ | refine blk_drew ?_ | refine blk_alloc ?_ _)); exact BK166.out⟩, ⟨by (with_reducible repeat (first | refine blk_drewN ?_ _ | refine blk_drew ?_ | refine blk_alloc ?_ _)); refine blk_far ?_ NB167_169.out _; (with_reducible repeat (first | refine blk_drewN ?_ _ | refine blk_drew ?_ | refine blk_alloc ?_ _)); exact BK167.out⟩, ⟨by (with_reducible repeat (first | refine blk_drewN ?_ _ | refine blk_drew ?_ | refine blk_alloc ?_ _)); refine blk_put (cs := #[.int .i64 a0_0, .int .i64 a1, u170002]) ?_ 2 _ rfl; (with_reducible repeat (first | refine blk_drewN ?_ _ | refine blk_drew ?_ | refine blk_alloc ?_ _)); exact BK169.out⟩, ⟨by repeat (with_reducible first | exact HB.out | apply pw_below_drewN | apply below_drew1 | refine below_set ?_ (Aside0.out (by assumption)))⟩⟩
          ·rw [if_neg c36] at H
           exact absurd H (by simp)
         ·rw [if_neg c34] at H
          exact absurd H (by simp)
        ·rw [if_neg c33] at H
         exact absurd H (by simp)
       ·rw [if_neg c32] at H
        have c32b0 : decide (x35_2 < (l0_2.length : Int)) = false := decide_eq_false c32
        clear c32
        replace H := Option.bind_eq_some_iff.mp H
        obtain ⟨t181, A480, H⟩ := H
        try dsimp only at H
        have A48 := Aside0.mk A480
        clear A480
        by_cases c49 : t181 = true
        ·subst c49
         rw [if_pos rfl] at H; try dsimp only at H
         simp only [Option.some.injEq, Prod.mk.injEq] at H
         obtain ⟨rfl, rfl, rfl, rfl⟩ := H
         have hnb50 := NB169_166.out
         have hnc50 := NB166_169.out
         have hnb51 := NB169_167.out
         have hnc51 := NB167_169.out
         have hcz52_0 : wr.cell? ⟨gb169, 0, none⟩ = some (.int .i64 a0_0) := (blk_cell BK169.out 0).trans rfl
         have hcz52_1 : wr.cell? ⟨gb169, 1, none⟩ = some (.int .i64 a1) := (blk_cell BK169.out 1).trans rfl
         have hcz52_2 : wr.cell? ⟨gb169, 2, none⟩ = some (u170002) := (blk_cell BK169.out 2).trans rfl
         have hfz52_0 := blk_frozen BK169.out 0
         have hfz52_1 := blk_frozen BK169.out 1
         have hfz52_2 := blk_frozen BK169.out 2
         obtain ⟨Ao53, co53, eo53⟩ := Kd.R_slice HO_170002.out
         subst eo53
         go_wp2_with (first | ((with_reducible refine gate_callee (f := 32) rfl ?_); refine goesL_ (some 49) rfl rfl Try.func32 (by kernel_rfl) rfl #[.agg #[.int .i64 a0_0, .int .i64 a1, .slice Ao53 x170002_2.length co53]] rfl (by (try simp only [List.map_toArray, List.map_cons, List.map_nil]); first | done | rfl | (simp only [List.length_drop, List.length_take]; rfl)) ?_; (with_reducible refine (board_Is.calls k2 a0_0 a1 _ _ x170002_2 true _ ?side1 ?side2 A48.out).mono ?_); (case side1 => repeat (first | exact (Kd.R_reads' HO_170002.out).2.2 | (with_reducible refine Kd.C_alloc ?_ _) | (with_reducible refine Kd.C_drewN ?_ _) | (with_reducible refine Kd.C_drew ?_))); (case side2 => exact (Kd.R_reads' HO_170002.out).2.1); rintro e w54 ⟨rfl, hb⟩; refine ⟨_, rfl, ?_⟩; replace HO_170002 := rb_ HO_170002 hb; replace BK166 := bl_ BK166 hb; replace BK167 := bl_ BK167 hb; replace BK169 := bl_ BK169 hb; replace HB := Aside0.mk (below_step (by repeat (with_reducible first | exact HB.out | apply pw_below_drewN | apply below_drew1 | refine below_set ?_ (Aside0.out (by assumption)))) hb); (try clear hb); (try clear hb2); (try clear hk); (try clear hi); have hcz55_0 : w54.cell? ⟨gb169, 0, none⟩ = some (.int .i64 a0_0) := (blk_cell BK169.out 0).trans rfl; have hcz55_1 : w54.cell? ⟨gb169, 1, none⟩ = some (.int .i64 a1) := (blk_cell BK169.out 1).trans rfl; have hcz55_2 : w54.cell? ⟨gb169, 2, none⟩ = some (.slice Ao53 x170002_2.length co53) := (blk_cell BK169.out 2).trans rfl; have hfz55_0 := blk_frozen BK169.out 0; have hfz55_1 := blk_frozen BK169.out 1; have hfz55_2 := blk_frozen BK169.out 2; have hnb56 := NB167_166.out; have hnc56 := NB166_167.out; have hcz57_0 : w54.cell? ⟨gb167, 0, none⟩ = some (.int .i64 0) := (blk_cell BK167.out 0).trans rfl; have hcz57_1 : w54.cell? ⟨gb167, 1, none⟩ = some (.int .i64 0) := (blk_cell BK167.out 1).trans rfl; have hcz57_2 : w54.cell? ⟨gb167, 2, none⟩ = some (.slice none 0 0) := (blk_cell BK167.out 2).trans rfl; have hfz57_0 := blk_frozen BK167.out 0; have hfz57_1 := blk_frozen BK167.out 1; have hfz57_2 := blk_frozen BK167.out 2))
         refine bodyPost_ret (results_ct rfl _ _ gb167 24 #[.int .i64 a0_0, .int .i64 a1, .slice Ao53 x170002_2.length co53] (0, 0) _ rfl (by refine blk_put (cs := #[.int .i64 a0_0, .int .i64 a1, .slice none 0 0]) ?_ 2 _ rfl; refine blk_put (cs := #[.int .i64 a0_0, .int .i64 0, .slice none 0 0]) ?_ 1 _ rfl; refine blk_put (cs := #[.int .i64 0, .int .i64 0, .slice none 0 0]) ?_ 0 _ rfl; exact BK167.out) Try.underlying24 rfl (by kernel_rfl)) rfl ?_
         exact ⟨_, by first | rfl | (simp [errW_none, errW_some] <;> rfl) | (simp [*, errW_none, errW_some] <;> rfl), by (with_reducible repeat (first | apply Kd.R_alloc | apply Kd.R_drewN | apply Kd.R_drew)); exact Kd.R_mono (rf3 (Kd.R_types HO_170002.out BK167.out (by decide)) (fun _ hk => hk.2) (.int .i64 a0_0) (.int .i64 a1) (.slice Ao53 x170002_2.length co53)) (fun _ hk => trivial), by repeat (with_reducible first | exact HB.out | apply pw_below_drewN | apply below_drew1 | refine below_set ?_ (Aside0.out (by assumption)))⟩
        ·replace c49 := Bool.eq_false_iff.mpr c49
         subst c49
         rw [if_neg (show ¬ (false = true) by decide)] at H; try dsimp only at H
         simp only [Option.some.injEq, Prod.mk.injEq] at H
         obtain ⟨rfl, rfl, rfl, rfl⟩ := H
         have hnb58 := NB169_166.out
         have hnc58 := NB166_169.out
         have hnb59 := NB169_167.out
         have hnc59 := NB167_169.out
         have hcz60_0 : wr.cell? ⟨gb169, 0, none⟩ = some (.int .i64 a0_0) := (blk_cell BK169.out 0).trans rfl
         have hcz60_1 : wr.cell? ⟨gb169, 1, none⟩ = some (.int .i64 a1) := (blk_cell BK169.out 1).trans rfl
         have hcz60_2 : wr.cell? ⟨gb169, 2, none⟩ = some (u170002) := (blk_cell BK169.out 2).trans rfl
         have hfz60_0 := blk_frozen BK169.out 0
         have hfz60_1 := blk_frozen BK169.out 1
         have hfz60_2 := blk_frozen BK169.out 2
         obtain ⟨Ao61, co61, eo61⟩ := Kd.R_slice HO_170002.out
         subst eo61
         go_wp2_with (first | ((with_reducible refine gate_callee (f := 32) rfl ?_); refine goesL_ (some 49) rfl rfl Try.func32 (by kernel_rfl) rfl #[.agg #[.int .i64 a0_0, .int .i64 a1, .slice Ao61 x170002_2.length co61]] rfl (by (try simp only [List.map_toArray, List.map_cons, List.map_nil]); first | done | rfl | (simp only [List.length_drop, List.length_take]; rfl)) ?_; (with_reducible refine (board_Is.calls k2 a0_0 a1 _ _ x170002_2 false _ ?side1 ?side2 A48.out).mono ?_); (case side1 => repeat (first | exact (Kd.R_reads' HO_170002.out).2.2 | (with_reducible refine Kd.C_alloc ?_ _) | (with_reducible refine Kd.C_drewN ?_ _) | (with_reducible refine Kd.C_drew ?_))); (case side2 => exact (Kd.R_reads' HO_170002.out).2.1); rintro e w62 ⟨rfl, hb⟩; refine ⟨_, rfl, ?_⟩; replace HO_170002 := rb_ HO_170002 hb; replace BK166 := bl_ BK166 hb; replace BK167 := bl_ BK167 hb; replace BK169 := bl_ BK169 hb; replace HB := Aside0.mk (below_step (by repeat (with_reducible first | exact HB.out | apply pw_below_drewN | apply below_drew1 | refine below_set ?_ (Aside0.out (by assumption)))) hb); (try clear hb); (try clear hb2); (try clear hk); (try clear hi); have hnb63 := NB167_166.out; have hnc63 := NB166_167.out; have hcz64_0 : w62.cell? ⟨gb167, 0, none⟩ = some (.int .i64 0) := (blk_cell BK167.out 0).trans rfl; have hcz64_1 : w62.cell? ⟨gb167, 1, none⟩ = some (.int .i64 0) := (blk_cell BK167.out 1).trans rfl; have hcz64_2 : w62.cell? ⟨gb167, 2, none⟩ = some (.slice none 0 0) := (blk_cell BK167.out 2).trans rfl; have hfz64_0 := blk_frozen BK167.out 0; have hfz64_1 := blk_frozen BK167.out 1; have hfz64_2 := blk_frozen BK167.out 2))
         refine bodyPost_ret (results_ct rfl _ _ gb167 24 #[.int .i64 0, .int .i64 0, .slice none 0 0] (0, 0) _ rfl (by refine blk_put (cs := #[.int .i64 0, .int .i64 0, .slice none 0 0]) ?_ 2 _ rfl; refine blk_put (cs := #[.int .i64 0, .int .i64 0, .slice none 0 0]) ?_ 1 _ rfl; refine blk_put (cs := #[.int .i64 0, .int .i64 0, .slice none 0 0]) ?_ 0 _ rfl; exact BK167.out) Try.underlying24 rfl (by kernel_rfl)) rfl ?_
         exact ⟨_, by first | rfl | (simp [errW_none, errW_some] <;> rfl) | (simp [*, errW_none, errW_some] <;> rfl), by first | exact Kd.R_nil _ _ _ _ _ | exact Kd.N_nil _ _ _ _ _ | exact Kd.V_nil _ _ _ _ _ | exact Kd.Q_nil _ _ _ _ _ | exact Kd.S_nil _ _ _ _ _, by repeat (with_reducible first | exact HB.out | apply pw_below_drewN | apply below_drew1 | refine below_set ?_ (Aside0.out (by assumption)))⟩

end Go.Proofs.Ytcfpbmdndapeaaa.F
