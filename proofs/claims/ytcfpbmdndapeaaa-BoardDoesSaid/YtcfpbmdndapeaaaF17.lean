-- Written by a program of this session (xprint.py), out of the translation and of contracts proved by hand.
import Derived.Test.YtcfpbmdndapeaaaF0
import Derived.Test.YtcfpbmdndapeaaaF9
import Derived.Test.YtcfpbmdndapeaaaF16
namespace Go.Proofs.Ytcfpbmdndapeaaa.F
open Go.RowKit Go.Proofs.YtcfpbmdndapeaaaV.PrintWords Go.Proofs.YtcfpbmdndapeaaaV.PrintLast Go.Proofs.YtcfpbmdndapeaaaV.PrintMore
attribute [local go_sem] max2_int min2_int max_two min_two max_three min_three max_four min_four   -- for this text's walks alone
set_option linter.unusedVariables false
set_option linter.unusedSimpArgs false

/-! ### watchmanref08_Pass: function 20 -/
mutual
def watchmanref08_Pass.j0 : Nat → Int → Bool → Int → Int → List (S28) → Option (Int × Int × (List (S28)) × Int)
 | 0, _, _, _, _, _ => none
 | k + 1, x1, x19, x316000, x316001, x316002 => if x19 = true then (some (0, 0, ([] : List (S28)), 1)) else (if x1 < x316001 then (some (0, 0, ([] : List (S28)), 62)) else (watchmanref08_Pass.l0 k x1 0 x316000 x316001 x316002 x316000 x1 ([] : List (S28))))
def watchmanref08_Pass.l0 : Nat → Int → Int → Int → Int → List (S28) → Int → Int → List (S28) → Option (Int × Int × (List (S28)) × Int)
 | 0, _, _, _, _, _, _, _, _ => none
 | k + 1, x1, x7, x316000, x316001, x316002, x319000, x319001, x319002 => if x7 < (x316002.length : Int) then (if 0 ≤ x7 then ((watchmanref06_Pass.f k ((rd_T28 x316002 x7).f0.f0) ((rd_T28 x316002 x7).f0.f1) ((rd_T28 x316002 x7).f1) ((rd_T28 x316002 x7).f2) ((rd_T28 x316002 x7).f3) ((rd_T28 x316002 x7).f4) x1).bind fun bt320 => (if x319002.length < 2932031007402 then (watchmanref08_Pass.l0 k x1 (wrap64 (x7 + 1)) x316000 x316001 x316002 x319000 x319001 (x319002 ++ [(⟨(⟨bt320.1, bt320.2.1⟩ : S26), bt320.2.2.1, bt320.2.2.2.1, bt320.2.2.2.2.1, bt320.2.2.2.2.2⟩ : S28)])) else (none))) else (none)) else ((watchmanref08_Is.f k x319000 x319001 x319002).bind fun t330 => (if t330 = true then (some (x319000, x319001, x319002, 0)) else (some (0, 0, ([] : List (S28)), 1))))
end
def watchmanref08_Pass.f (k : Nat) (a0_0 : Int) (a0_1 : Int) (l0_2 : List (S28)) (a1 : Int) : Option (Int × Int × (List (S28)) × Int) := (watchmanref08_Is.f k a0_0 a0_1 l0_2).bind fun t317 => (if t317 = true then (if a1 < 0 then (watchmanref08_Pass.j0 k a1 true a0_0 a0_1 l0_2) else (watchmanref08_Pass.j0 k a1 (decide (a1 > 1000000000)) a0_0 a0_1 l0_2)) else (watchmanref08_Pass.j0 k a1 true a0_0 a0_1 l0_2))
theorem watchmanref08_Pass.mono_l : ∀ k, (∀ y0 y1 y2 y3 y4, LeO (watchmanref08_Pass.j0 k y0 y1 y2 y3 y4) (watchmanref08_Pass.j0 (k + 1) y0 y1 y2 y3 y4)) ∧ (∀ y0 y1 y2 y3 y4 y5 y6 y7, LeO (watchmanref08_Pass.l0 k y0 y1 y2 y3 y4 y5 y6 y7) (watchmanref08_Pass.l0 (k + 1) y0 y1 y2 y3 y4 y5 y6 y7))
 | 0 => ⟨fun _ _ _ _ _ r h => by simp [watchmanref08_Pass.j0] at h, fun _ _ _ _ _ _ _ _ r h => by simp [watchmanref08_Pass.l0] at h⟩
 | k + 1 => by
  obtain ⟨ih0, ih1⟩ := watchmanref08_Pass.mono_l k
  refine ⟨?_, ?_⟩
  ·intro y0 y1 y2 y3 y4
   unfold watchmanref08_Pass.j0
   repeat' first
   | (with_reducible exact ih0 _ _ _ _ _)
   | (with_reducible exact ih1 _ _ _ _ _ _ _ _)
   | (with_reducible exact watchmanref06_Pass.mono _ _ _ _ _ _ _ _)
   | (with_reducible exact watchmanref08_Is.mono _ _ _ _)
   | (with_reducible exact LeO.refl _)
   | (with_reducible exact LeO.none _)
   | (with_reducible refine LeO.ite ?_ ?_)
   | (with_reducible refine LeO.bind ?_ (fun _ => ?_))
   | exact ih0 _ _ _ _ _
   | exact ih1 _ _ _ _ _ _ _ _
   | exact watchmanref06_Pass.mono _ _ _ _ _ _ _ _
   | exact watchmanref08_Is.mono _ _ _ _
   | exact LeO.none _
   | refine LeO.ite ?_ ?_
   | refine LeO.bind ?_ (fun _ => ?_)
  ·intro y0 y1 y2 y3 y4 y5 y6 y7
   unfold watchmanref08_Pass.l0
   repeat' first
   | (with_reducible exact ih0 _ _ _ _ _)
   | (with_reducible exact ih1 _ _ _ _ _ _ _ _)
   | (with_reducible exact watchmanref06_Pass.mono _ _ _ _ _ _ _ _)
   | (with_reducible exact watchmanref08_Is.mono _ _ _ _)
   | (with_reducible exact LeO.refl _)
   | (with_reducible exact LeO.none _)
   | (with_reducible refine LeO.ite ?_ ?_)
   | (with_reducible refine LeO.bind ?_ (fun _ => ?_))
   | exact ih0 _ _ _ _ _
   | exact ih1 _ _ _ _ _ _ _ _
   | exact watchmanref06_Pass.mono _ _ _ _ _ _ _ _
   | exact watchmanref08_Is.mono _ _ _ _
   | exact LeO.none _
   | refine LeO.ite ?_ ?_
   | refine LeO.bind ?_ (fun _ => ?_)
theorem watchmanref08_Pass.mono : ∀ a0 a1 a2 a3 k, LeO (watchmanref08_Pass.f k a0 a1 a2 a3) (watchmanref08_Pass.f (k + 1) a0 a1 a2 a3) := by
 intro a0 a1 a2 a3 k
 obtain ⟨ih0, ih1⟩ := watchmanref08_Pass.mono_l k
 unfold watchmanref08_Pass.f
 repeat' first
   | (with_reducible exact ih0 _ _ _ _ _)
   | (with_reducible exact ih1 _ _ _ _ _ _ _ _)
   | (with_reducible exact watchmanref06_Pass.mono _ _ _ _ _ _ _ _)
   | (with_reducible exact watchmanref08_Is.mono _ _ _ _)
   | (with_reducible exact LeO.refl _)
   | (with_reducible exact LeO.none _)
   | (with_reducible refine LeO.ite ?_ ?_)
   | (with_reducible refine LeO.bind ?_ (fun _ => ?_))
   | exact ih0 _ _ _ _ _
   | exact ih1 _ _ _ _ _ _ _ _
   | exact watchmanref06_Pass.mono _ _ _ _ _ _ _ _
   | exact watchmanref08_Is.mono _ _ _ _
   | exact LeO.none _
   | refine LeO.ite ?_ ?_
   | refine LeO.bind ?_ (fun _ => ?_)
set_option maxHeartbeats 8000000 in
set_option maxRecDepth 100000 in
theorem watchmanref08_Pass.calls (k : Nat) (a0_0 : Int) (a0_1 : Int) (A0_2 : Option Addr) (c0_2 : Nat) (l0_2 : List (S28)) (a1 : Int) (r1 : Int) (r2 : Int) (r3 : List (S28)) (r4 : Int) (w : World) (hr0_2 : Kd.C k28 w A0_2 l0_2.length l0_2) (hc0_2 : l0_2.length ≤ c0_2) (h : watchmanref08_Pass.f k a0_0 a0_1 l0_2 a1 = some (r1, r2, r3, r4)) :
  Calls Try.prog 20 #[.agg #[.int .i64 a0_0, .int .i64 a0_1, .slice A0_2 l0_2.length c0_2], .int .i64 a1] w fun e w' => ∃ v2_ : Value, e = .returned (.tuple #[.agg #[.int .i64 r1, .int .i64 r2, v2_], .int .i64 r4]) ∧ Kd.R k28 28 w' w.heap.size (fun _ => True) v2_ r3 ∧ Below w.heap.size w w' := by
 have hu24 := Try.underlying24
 have hu28 := Try.underlying28
 have HR0_2 := Aside0.mk hr0_2
 have HC0_2 := Aside0.mk hc0_2
 clear hr0_2 hc0_2
 have HB := Aside0.mk (Below.refl w.heap.size w)
 have H : ((watchmanref08_Is.f k a0_0 a0_1 l0_2).bind fun t317 => (if t317 = true then (if a1 < 0 then (watchmanref08_Pass.j0 k a1 true a0_0 a0_1 l0_2) else (watchmanref08_Pass.j0 k a1 (decide (a1 > 1000000000)) a0_0 a0_1 l0_2)) else (watchmanref08_Pass.j0 k a1 true a0_0 a0_1 l0_2))) = some (r1, r2, r3, r4) := h
 clear h
 have HC3 := Aside0.mk H
 clear H
 go_enter Try.func20, Try.ntmps20
 go_upto_region 1 with (first | ((with_reducible refine gate_dst (N := 2) rfl ?_); refine box_event ?hg (N := 2) ?hd (cs := #[.int .i64 a0_0, .int .i64 a0_1, .slice A0_2 l0_2.length c0_2]) (t := 24) ?hr ?_; (case hd => rfl); (case hg => rfl); (case hr => first | (go_simp; done) | (go_simp; rfl)); intro gb315 hg w4 hbox hb; have BK315 := Aside0.mk (hbox); have GW315 := Aside0.mk ((by rw [hg]; exact (below_size HB.out) : w.heap.size ≤ gb315)); have GE315 := Aside0.mk ((by rw [hg]; exact (below_size HB.out) : w.heap.size ≤ gb315)); replace HB := Aside0.mk (below_step HB.out hb); clear hb hbox hg) | ((with_reducible refine gate_dst (N := 4) rfl ?_); refine box_event ?hg (N := 4) ?hd (cs := #[.int .i64 0, .int .i64 0, .slice none 0 0]) (t := 24) ?hr ?_; (case hd => rfl); (case hg => rfl); (case hr => first | (go_simp; done) | (go_simp; rfl)); intro gb316 hg w5 hbox hb; have BK316 := Aside0.mk (hbox); have GW316 := Aside0.mk ((by rw [hg]; exact (below_size (by repeat (with_reducible first | exact HB.out | apply pw_below_drewN | apply below_drew1 | refine below_set ?_ GE315.out))) : w.heap.size ≤ gb316)); have GE316 := Aside0.mk ((by rw [hg]; exact (below_size (by repeat (with_reducible first | exact HB.out | apply pw_below_drewN | apply below_drew1 | refine below_set ?_ GE315.out))) : w.heap.size ≤ gb316)); replace HB := Aside0.mk (below_step (by repeat (with_reducible first | exact HB.out | apply pw_below_drewN | apply below_drew1 | refine below_set ?_ GE315.out)) hb); have NB315_316 := Aside0.mk ((by rw [hg]; exact Nat.ne_of_lt (blk_lt BK315.out) : gb315 ≠ gb316)); have NB316_315 := Aside0.mk ((by rw [hg]; exact Nat.ne_of_gt (blk_lt BK315.out) : gb316 ≠ gb315)); replace BK315 := bl_ BK315 hb; clear hb hbox hg))
 (try simp only [Act.put, List.setIfInBounds_toArray, List.set_cons_zero, List.set_cons_succ])
 go_cut [19] (fun v19 wc => ∃ (kq : Nat) (x19_2 : Bool), v19 = .bool x19_2 ∧ Aside0 (watchmanref08_Pass.j0 kq a1 x19_2 a0_0 a0_1 l0_2 = some (r1, r2, r3, r4)) ∧ Aside0 (kq ≤ k) ∧ Aside0 (wc.heap[gb315]? = some (.cells #[.int .i64 a0_0, .int .i64 a0_1, (.slice A0_2 l0_2.length c0_2)] 24 (0, 0))) ∧ Aside0 (wc.heap[gb316]? = some (.cells #[.int .i64 0, .int .i64 0, (.slice none 0 0)] 24 (0, 0))) ∧ Aside0 (Below w.heap.size w wc))
 case first =>
  have H := HC3.out
  clear HC3
  replace H := Option.bind_eq_some_iff.mp H
  obtain ⟨t317, A60, H⟩ := H
  try dsimp only at H
  have A6 := Aside0.mk A60
  clear A60
  by_cases c7 : t317 = true
  ·subst c7
   rw [if_pos rfl] at H; try dsimp only at H
   by_cases c8 : a1 < 0
   ·rw [if_pos c8] at H
    have c8b0 : decide (a1 < 0) = true := decide_eq_true c8
    clear c8
    (first | rw [c8b0] | (simp only [i64_w, i32_w]; rw [c8b0]) | skip)
    have H' := Aside0.mk H
    clear H
    have hnb9 := NB315_316.out
    have hnc9 := NB316_315.out
    have hcz10_0 : w5.cell? ⟨gb315, 0, none⟩ = some (.int .i64 a0_0) := (blk_cell BK315.out 0).trans rfl
    have hcz10_1 : w5.cell? ⟨gb315, 1, none⟩ = some (.int .i64 a0_1) := (blk_cell BK315.out 1).trans rfl
    have hcz10_2 : w5.cell? ⟨gb315, 2, none⟩ = some (.slice A0_2 l0_2.length c0_2) := (blk_cell BK315.out 2).trans rfl
    have hfz10_0 := blk_frozen BK315.out 0
    have hfz10_1 := blk_frozen BK315.out 1
    have hfz10_2 := blk_frozen BK315.out 2
    go_wp2_with (first | ((with_reducible refine gate_callee (f := 33) rfl ?_); refine goesL_ (some 10) rfl rfl Try.func33 (by kernel_rfl) rfl #[.agg #[.int .i64 a0_0, .int .i64 a0_1, .slice A0_2 l0_2.length c0_2]] rfl (by (try simp only [List.map_toArray, List.map_cons, List.map_nil]); first | done | rfl | (simp only [List.length_drop, List.length_take]; rfl)) ?_; (with_reducible refine (watchmanref08_Is.calls k a0_0 a0_1 _ _ l0_2 true _ ?side1 ?side2 A6.out).mono ?_); (case side1 => exact (Kd.C_below HR0_2.out HB.out)); (case side2 => exact HC0_2.out); rintro e w11 ⟨rfl, hb⟩; refine ⟨_, rfl, ?_⟩; replace BK315 := bl_ BK315 hb; replace BK316 := bl_ BK316 hb; replace HB := Aside0.mk (below_step (by repeat (with_reducible first | exact HB.out | apply pw_below_drewN | apply below_drew1 | refine below_set ?_ (Aside0.out (by assumption)))) hb); (try clear hb); (try clear hb2); (try clear hk); (try clear hi)))
    go_meet
    case rel => exact ⟨_, (true), (by first | rfl | (simp; done) | (simp [*]; done)), H', ⟨by first | omega | exact Nat.le_refl _⟩, ⟨by (with_reducible repeat (first | refine blk_drewN ?_ _ | refine blk_drew ?_ | refine blk_alloc ?_ _)); exact BK315.out⟩, ⟨by (with_reducible repeat (first | refine blk_drewN ?_ _ | refine blk_drew ?_ | refine blk_alloc ?_ _)); exact BK316.out⟩, ⟨by repeat (with_reducible first | exact HB.out | apply pw_below_drewN | apply below_drew1 | refine below_set ?_ (Aside0.out (by assumption)))⟩⟩
   ·rw [if_neg c8] at H
    have c8b0 : decide (a1 < 0) = false := decide_eq_false c8
    clear c8
    (first | rw [c8b0] | (simp only [i64_w, i32_w]; rw [c8b0]) | skip)
    have H' := Aside0.mk H
    clear H
    have hnb12 := NB315_316.out
    have hnc12 := NB316_315.out
    have hcz13_0 : w5.cell? ⟨gb315, 0, none⟩ = some (.int .i64 a0_0) := (blk_cell BK315.out 0).trans rfl
    have hcz13_1 : w5.cell? ⟨gb315, 1, none⟩ = some (.int .i64 a0_1) := (blk_cell BK315.out 1).trans rfl
    have hcz13_2 : w5.cell? ⟨gb315, 2, none⟩ = some (.slice A0_2 l0_2.length c0_2) := (blk_cell BK315.out 2).trans rfl
    have hfz13_0 := blk_frozen BK315.out 0
    have hfz13_1 := blk_frozen BK315.out 1
    have hfz13_2 := blk_frozen BK315.out 2
    go_wp2_with (first | ((with_reducible refine gate_callee (f := 33) rfl ?_); refine goesL_ (some 10) rfl rfl Try.func33 (by kernel_rfl) rfl #[.agg #[.int .i64 a0_0, .int .i64 a0_1, .slice A0_2 l0_2.length c0_2]] rfl (by (try simp only [List.map_toArray, List.map_cons, List.map_nil]); first | done | rfl | (simp only [List.length_drop, List.length_take]; rfl)) ?_; (with_reducible refine (watchmanref08_Is.calls k a0_0 a0_1 _ _ l0_2 true _ ?side1 ?side2 A6.out).mono ?_); (case side1 => exact (Kd.C_below HR0_2.out HB.out)); (case side2 => exact HC0_2.out); rintro e w14 ⟨rfl, hb⟩; refine ⟨_, rfl, ?_⟩; replace BK315 := bl_ BK315 hb; replace BK316 := bl_ BK316 hb; replace HB := Aside0.mk (below_step (by repeat (with_reducible first | exact HB.out | apply pw_below_drewN | apply below_drew1 | refine below_set ?_ (Aside0.out (by assumption)))) hb); (try clear hb); (try clear hb2); (try clear hk); (try clear hi)))
    go_meet
    case rel => exact ⟨_, (decide (a1 > 1000000000)), (by first | rfl | (simp; done) | (simp [*]; done)), H', ⟨by first | omega | exact Nat.le_refl _⟩, ⟨by (with_reducible repeat (first | refine blk_drewN ?_ _ | refine blk_drew ?_ | refine blk_alloc ?_ _)); exact BK315.out⟩, ⟨by (with_reducible repeat (first | refine blk_drewN ?_ _ | refine blk_drew ?_ | refine blk_alloc ?_ _)); exact BK316.out⟩, ⟨by repeat (with_reducible first | exact HB.out | apply pw_below_drewN | apply below_drew1 | refine below_set ?_ (Aside0.out (by assumption)))⟩⟩
  ·replace c7 := Bool.eq_false_iff.mpr c7
   subst c7
   rw [if_neg (show ¬ (false = true) by decide)] at H; try dsimp only at H
   have H' := Aside0.mk H
   clear H
   have hnb15 := NB315_316.out
   have hnc15 := NB316_315.out
   have hcz16_0 : w5.cell? ⟨gb315, 0, none⟩ = some (.int .i64 a0_0) := (blk_cell BK315.out 0).trans rfl
   have hcz16_1 : w5.cell? ⟨gb315, 1, none⟩ = some (.int .i64 a0_1) := (blk_cell BK315.out 1).trans rfl
   have hcz16_2 : w5.cell? ⟨gb315, 2, none⟩ = some (.slice A0_2 l0_2.length c0_2) := (blk_cell BK315.out 2).trans rfl
   have hfz16_0 := blk_frozen BK315.out 0
   have hfz16_1 := blk_frozen BK315.out 1
   have hfz16_2 := blk_frozen BK315.out 2
   go_wp2_with (first | ((with_reducible refine gate_callee (f := 33) rfl ?_); refine goesL_ (some 10) rfl rfl Try.func33 (by kernel_rfl) rfl #[.agg #[.int .i64 a0_0, .int .i64 a0_1, .slice A0_2 l0_2.length c0_2]] rfl (by (try simp only [List.map_toArray, List.map_cons, List.map_nil]); first | done | rfl | (simp only [List.length_drop, List.length_take]; rfl)) ?_; (with_reducible refine (watchmanref08_Is.calls k a0_0 a0_1 _ _ l0_2 false _ ?side1 ?side2 A6.out).mono ?_); (case side1 => exact (Kd.C_below HR0_2.out HB.out)); (case side2 => exact HC0_2.out); rintro e w17 ⟨rfl, hb⟩; refine ⟨_, rfl, ?_⟩; replace BK315 := bl_ BK315 hb; replace BK316 := bl_ BK316 hb; replace HB := Aside0.mk (below_step (by repeat (with_reducible first | exact HB.out | apply pw_below_drewN | apply below_drew1 | refine below_set ?_ (Aside0.out (by assumption)))) hb); (try clear hb); (try clear hb2); (try clear hk); (try clear hi)))
   go_meet
   case rel => exact ⟨_, (true), (by first | rfl | (simp; done) | (simp [*]; done)), H', ⟨by first | omega | exact Nat.le_refl _⟩, ⟨by (with_reducible repeat (first | refine blk_drewN ?_ _ | refine blk_drew ?_ | refine blk_alloc ?_ _)); exact BK315.out⟩, ⟨by (with_reducible repeat (first | refine blk_drewN ?_ _ | refine blk_drew ?_ | refine blk_alloc ?_ _)); exact BK316.out⟩, ⟨by repeat (with_reducible first | exact HB.out | apply pw_below_drewN | apply below_drew1 | refine below_set ?_ (Aside0.out (by assumption)))⟩⟩
 case rest =>
  clear HC3
  try clear c1; try clear c2; try clear p2; try clear c3; try clear c7; try clear c8; try clear c8b0; try clear c9; try clear c12; try clear c15; try clear hcz10_0; try clear hcz10_1; try clear hcz10_2; try clear hcz13_0; try clear hcz13_1; try clear hcz13_2; try clear hcz16_0; try clear hcz16_1; try clear hcz16_2; try clear hfz10_0; try clear hfz10_1; try clear hfz10_2; try clear hfz13_0; try clear hfz13_1; try clear hfz13_2; try clear hfz16_0; try clear hfz16_1; try clear hfz16_2
  obtain ⟨kq, x19_2, rfl, HA, HJ2, BK315, BK316, HB⟩ := hcut
  cases kq with
  | zero => exact absurd HA.out (by simp [watchmanref08_Pass.j0])
  | succ kj2 =>
   have H := HA.out
   clear HA
   simp only [watchmanref08_Pass.j0] at H
   by_cases c18 : x19_2 = true
   ·subst c18
    rw [if_pos rfl] at H; try dsimp only at H
    simp only [Option.some.injEq, Prod.mk.injEq] at H
    obtain ⟨rfl, rfl, rfl, rfl⟩ := H
    have hnb19 := NB316_315.out
    have hnc19 := NB315_316.out
    have hcz20_0 : wc.cell? ⟨gb316, 0, none⟩ = some (.int .i64 0) := (blk_cell BK316.out 0).trans rfl
    have hcz20_1 : wc.cell? ⟨gb316, 1, none⟩ = some (.int .i64 0) := (blk_cell BK316.out 1).trans rfl
    have hcz20_2 : wc.cell? ⟨gb316, 2, none⟩ = some (.slice none 0 0) := (blk_cell BK316.out 2).trans rfl
    have hfz20_0 := blk_frozen BK316.out 0
    have hfz20_1 := blk_frozen BK316.out 1
    have hfz20_2 := blk_frozen BK316.out 2
    go_wp2
    refine bodyPost_ret (results_ct rfl _ _ gb316 24 #[.int .i64 0, .int .i64 0, .slice none 0 0] (0, 0) _ rfl (by refine blk_put (cs := #[.int .i64 0, .int .i64 0, .slice none 0 0]) ?_ 2 _ rfl; refine blk_put (cs := #[.int .i64 0, .int .i64 0, .slice none 0 0]) ?_ 1 _ rfl; refine blk_put (cs := #[.int .i64 0, .int .i64 0, .slice none 0 0]) ?_ 0 _ rfl; exact BK316.out) Try.underlying24 rfl (by kernel_rfl)) rfl ?_
    exact ⟨_, by first | rfl | (simp [errW_none, errW_some] <;> rfl) | (simp [*, errW_none, errW_some] <;> rfl), by first | exact Kd.R_nil _ _ _ _ _ | exact Kd.N_nil _ _ _ _ _ | exact Kd.V_nil _ _ _ _ _ | exact Kd.Q_nil _ _ _ _ _ | exact Kd.S_nil _ _ _ _ _, by repeat (with_reducible first | exact HB.out | apply pw_below_drewN | apply below_drew1 | refine below_set ?_ (Aside0.out (by assumption)))⟩
   ·replace c18 := Bool.eq_false_iff.mpr c18
    subst c18
    rw [if_neg (show ¬ (false = true) by decide)] at H; try dsimp only at H
    by_cases c21 : a1 < a0_1
    ·rw [if_pos c21] at H
     have c21b0 : decide (a1 < a0_1) = true := decide_eq_true c21
     clear c21
     simp only [Option.some.injEq, Prod.mk.injEq] at H
     obtain ⟨rfl, rfl, rfl, rfl⟩ := H
     have hnb22 := NB315_316.out
     have hnc22 := NB316_315.out
     have hcz23_0 : wc.cell? ⟨gb315, 0, none⟩ = some (.int .i64 a0_0) := (blk_cell BK315.out 0).trans rfl
     have hcz23_1 : wc.cell? ⟨gb315, 1, none⟩ = some (.int .i64 a0_1) := (blk_cell BK315.out 1).trans rfl
     have hcz23_2 : wc.cell? ⟨gb315, 2, none⟩ = some (.slice A0_2 l0_2.length c0_2) := (blk_cell BK315.out 2).trans rfl
     have hfz23_0 := blk_frozen BK315.out 0
     have hfz23_1 := blk_frozen BK315.out 1
     have hfz23_2 := blk_frozen BK315.out 2
     have hcz24_0 : wc.cell? ⟨gb316, 0, none⟩ = some (.int .i64 0) := (blk_cell BK316.out 0).trans rfl
     have hcz24_1 : wc.cell? ⟨gb316, 1, none⟩ = some (.int .i64 0) := (blk_cell BK316.out 1).trans rfl
     have hcz24_2 : wc.cell? ⟨gb316, 2, none⟩ = some (.slice none 0 0) := (blk_cell BK316.out 2).trans rfl
     have hfz24_0 := blk_frozen BK316.out 0
     have hfz24_1 := blk_frozen BK316.out 1
     have hfz24_2 := blk_frozen BK316.out 2
     go_wp2
     refine bodyPost_ret (results_ct rfl _ _ gb316 24 #[.int .i64 0, .int .i64 0, .slice none 0 0] (0, 0) _ rfl (by refine blk_put (cs := #[.int .i64 0, .int .i64 0, .slice none 0 0]) ?_ 2 _ rfl; refine blk_put (cs := #[.int .i64 0, .int .i64 0, .slice none 0 0]) ?_ 1 _ rfl; refine blk_put (cs := #[.int .i64 0, .int .i64 0, .slice none 0 0]) ?_ 0 _ rfl; exact BK316.out) Try.underlying24 rfl (by kernel_rfl)) rfl ?_
     exact ⟨_, by first | rfl | (simp [errW_none, errW_some] <;> rfl) | (simp [*, errW_none, errW_some] <;> rfl), by first | exact Kd.R_nil _ _ _ _ _ | exact Kd.N_nil _ _ _ _ _ | exact Kd.V_nil _ _ _ _ _ | exact Kd.Q_nil _ _ _ _ _ | exact Kd.S_nil _ _ _ _ _, by repeat (with_reducible first | exact HB.out | apply pw_below_drewN | apply below_drew1 | refine below_set ?_ (Aside0.out (by assumption)))⟩
    ·rw [if_neg c21] at H
     have c21b0 : decide (a1 < a0_1) = false := decide_eq_false c21
     clear c21
     have H' := Aside0.mk H
     clear H
     have hnb25 := NB315_316.out
     have hnc25 := NB316_315.out
     have hcz26_0 : wc.cell? ⟨gb315, 0, none⟩ = some (.int .i64 a0_0) := (blk_cell BK315.out 0).trans rfl
     have hcz26_1 : wc.cell? ⟨gb315, 1, none⟩ = some (.int .i64 a0_1) := (blk_cell BK315.out 1).trans rfl
     have hcz26_2 : wc.cell? ⟨gb315, 2, none⟩ = some (.slice A0_2 l0_2.length c0_2) := (blk_cell BK315.out 2).trans rfl
     have hfz26_0 := blk_frozen BK315.out 0
     have hfz26_1 := blk_frozen BK315.out 1
     have hfz26_2 := blk_frozen BK315.out 2
     go_wp2_with (first | ((with_reducible refine gate_dst (N := 6) rfl ?_); refine box_event ?hg (N := 6) ?hd (cs := #[.int .i64 0, .int .i64 0, .slice none 0 0]) (t := 24) ?hr ?_; (case hd => rfl); (case hg => rfl); (case hr => first | (go_simp; done) | (go_simp; rfl)); intro gb318 hg w27 hbox hb; have BK318 := Aside0.mk (hbox); have GW318 := Aside0.mk ((by rw [hg]; exact (below_size (by repeat (with_reducible first | exact HB.out | apply pw_below_drewN | apply below_drew1 | refine below_set ?_ (Aside0.out (by assumption))))) : w.heap.size ≤ gb318)); have GE318 := Aside0.mk ((by rw [hg]; exact (below_size (by repeat (with_reducible first | exact HB.out | apply pw_below_drewN | apply below_drew1 | refine below_set ?_ (Aside0.out (by assumption))))) : w.heap.size ≤ gb318)); replace HB := Aside0.mk (below_step (by repeat (with_reducible first | exact HB.out | apply pw_below_drewN | apply below_drew1 | refine below_set ?_ (Aside0.out (by assumption)))) hb); have NB315_318 := Aside0.mk ((by rw [hg]; exact Nat.ne_of_lt (blk_lt BK315.out) : gb315 ≠ gb318)); have NB318_315 := Aside0.mk ((by rw [hg]; exact Nat.ne_of_gt (blk_lt BK315.out) : gb318 ≠ gb315)); replace BK315 := bl_ BK315 hb; have NB316_318 := Aside0.mk ((by rw [hg]; exact Nat.ne_of_lt (blk_lt BK316.out) : gb316 ≠ gb318)); have NB318_316 := Aside0.mk ((by rw [hg]; exact Nat.ne_of_gt (blk_lt BK316.out) : gb318 ≠ gb316)); replace BK316 := bl_ BK316 hb; clear hb hbox hg; have hnb28 := NB318_315.out; have hnc28 := NB315_318.out; have hnb29 := NB318_316.out; have hnc29 := NB316_318.out; have hcz30_0 : w27.cell? ⟨gb318, 0, none⟩ = some (.int .i64 0) := (blk_cell BK318.out 0).trans rfl; have hcz30_1 : w27.cell? ⟨gb318, 1, none⟩ = some (.int .i64 0) := (blk_cell BK318.out 1).trans rfl; have hcz30_2 : w27.cell? ⟨gb318, 2, none⟩ = some (.slice none 0 0) := (blk_cell BK318.out 2).trans rfl; have hfz30_0 := blk_frozen BK318.out 0; have hfz30_1 := blk_frozen BK318.out 1; have hfz30_2 := blk_frozen BK318.out 2))
     go_loopg [7] kj2 (fun kq v7 w' => ∃ (x7_2 : Int) (x319002_2 : List (S28)) (u319002 : Value), v7 = .int .i64 x7_2 ∧ Aside0 (watchmanref08_Pass.l0 kq a1 x7_2 a0_0 a0_1 l0_2 a0_0 a1 x319002_2 = some (r1, r2, r3, r4)) ∧ Aside0 (kq ≤ kj2) ∧ Aside0 (Kd.R k28 28 w' w.heap.size (fun _ => True) u319002 x319002_2) ∧ Aside0 (w'.heap[gb315]? = some (.cells #[.int .i64 a0_0, .int .i64 a0_1, (.slice A0_2 l0_2.length c0_2)] 24 (0, 0))) ∧ Aside0 (w'.heap[gb316]? = some (.cells #[.int .i64 0, .int .i64 0, (.slice none 0 0)] 24 (0, 0))) ∧ Aside0 (w'.heap[gb318]? = some (.cells #[.int .i64 a0_0, .int .i64 a1, u319002] 24 (0, 0))) ∧ Aside0 (Below w.heap.size w w'))
     case atStart => exact ⟨(0), (([] : List (S28))), (.slice none 0 0), (by first | rfl | (simp; done) | (simp [*]; done)), H', ⟨Nat.le_refl _⟩, ⟨by first | exact Kd.R_nil _ _ _ _ _ | exact Kd.N_nil _ _ _ _ _ | exact Kd.V_nil _ _ _ _ _ | exact Kd.Q_nil _ _ _ _ _ | exact Kd.S_nil _ _ _ _ _⟩, ⟨by (with_reducible repeat (first | refine blk_drewN ?_ _ | refine blk_drew ?_ | refine blk_alloc ?_ _)); refine blk_far ?_ NB315_318.out _; (with_reducible repeat (first | refine blk_drewN ?_ _ | refine blk_drew ?_ | refine blk_alloc ?_ _)); refine blk_far ?_ NB315_318.out _; (with_reducible repeat (first | refine blk_drewN ?_ _ | refine blk_drew ?_ | refine blk_alloc ?_ _)); refine blk_far ?_ NB315_318.out _; (with_reducible repeat (first | refine blk_drewN ?_ _ | refine blk_drew ?_ | refine blk_alloc ?_ _)); exact BK315.out⟩, ⟨by (with_reducible repeat (first | refine blk_drewN ?_ _ | refine blk_drew ?_ | refine blk_alloc ?_ _)); refine blk_far ?_ NB316_318.out _; (with_reducible repeat (first | refine blk_drewN ?_ _ | refine blk_drew ?_ | refine blk_alloc ?_ _)); refine blk_far ?_ NB316_318.out _; (with_reducible repeat (first | refine blk_drewN ?_ _ | refine blk_drew ?_ | refine blk_alloc ?_ _)); refine blk_far ?_ NB316_318.out _; (with_reducible repeat (first | refine blk_drewN ?_ _ | refine blk_drew ?_ | refine blk_alloc ?_ _)); exact BK316.out⟩, ⟨by (with_reducible repeat (first | refine blk_drewN ?_ _ | refine blk_drew ?_ | refine blk_alloc ?_ _)); refine blk_put (cs := #[.int .i64 a0_0, .int .i64 a1, .slice none 0 0]) ?_ 2 _ rfl; (with_reducible repeat (first | refine blk_drewN ?_ _ | refine blk_drew ?_ | refine blk_alloc ?_ _)); refine blk_put (cs := #[.int .i64 a0_0, .int .i64 0, .slice none 0 0]) ?_ 1 _ rfl; (with_reducible repeat (first | refine blk_drewN ?_ _ | refine blk_drew ?_ | refine blk_alloc ?_ _)); refine blk_put (cs := #[.int .i64 0, .int .i64 0, .slice none 0 0]) ?_ 0 _ rfl; (with_reducible repeat (first | refine blk_drewN ?_ _ | refine blk_drew ?_ | refine blk_alloc ?_ _)); exact BK318.out⟩, ⟨by repeat (with_reducible first | exact HB.out | apply pw_below_drewN | apply below_drew1 | refine below_set ?_ (Aside0.out (by assumption)))⟩⟩
     case round =>
      clear H'
      try clear c1; try clear c2; try clear p2; try clear c3; try clear c7; try clear c8; try clear c8b0; try clear c9; try clear c12; try clear c15; try clear c18; try clear c19; try clear c20; try clear c21; try clear c21b0; try clear c22; try clear c25; try clear c28; try clear c29; try clear hcz10_0; try clear hcz10_1; try clear hcz10_2; try clear hcz13_0; try clear hcz13_1; try clear hcz13_2; try clear hcz16_0; try clear hcz16_1; try clear hcz16_2; try clear hcz20_0; try clear hcz20_1; try clear hcz20_2; try clear hcz23_0; try clear hcz23_1; try clear hcz23_2; try clear hcz24_0; try clear hcz24_1; try clear hcz24_2; try clear hcz26_0; try clear hcz26_1; try clear hcz26_2; try clear hcz30_0; try clear hcz30_1; try clear hcz30_2; try clear hfz10_0; try clear hfz10_1; try clear hfz10_2; try clear hfz13_0; try clear hfz13_1; try clear hfz13_2; try clear hfz16_0; try clear hfz16_1; try clear hfz16_2; try clear hfz20_0; try clear hfz20_1; try clear hfz20_2; try clear hfz23_0; try clear hfz23_1; try clear hfz23_2; try clear hfz24_0; try clear hfz24_1; try clear hfz24_2; try clear hfz26_0; try clear hfz26_1; try clear hfz26_2; try clear hfz30_0; try clear hfz30_1; try clear hfz30_2; try clear p2
      obtain ⟨x7_2, x319002_2, u319002, rfl, HA, HK2, HO_319002, BK315, BK316, BK318, HB⟩ := hrel
      cases gk with
      | zero => exact absurd HA.out (by simp [watchmanref08_Pass.l0])
      | succ k2 =>
       have H := HA.out
       clear HA
       simp only [watchmanref08_Pass.l0] at H
       by_cases c31 : x7_2 < (l0_2.length : Int)
       ·rw [if_pos c31] at H
        have c31b0 : decide (x7_2 < (l0_2.length : Int)) = true := decide_eq_true c31
        clear c31
        by_cases c32 : 0 ≤ x7_2
        ·rw [if_pos c32] at H
         have c32b0 : decide (0 ≤ x7_2) = true := decide_eq_true c32
         clear c32
         replace H := Option.bind_eq_some_iff.mp H
         obtain ⟨⟨t320, t321, t322, t323, t324, t325⟩, A330, H⟩ := H
         try dsimp only at H
         have A33 := Aside0.mk A330
         clear A330
         by_cases c34 : x319002_2.length < 2932031007402
         ·rw [if_pos c34] at H
          have LMc34 := Aside0.mk c34
          clear c34
          obtain ⟨y327, hy327⟩ : ∃ y_ : List (S28), y_ = (x319002_2 ++ [(⟨(⟨t320, t321⟩ : S26), t322, t323, t324, t325⟩ : S28)]) := ⟨_, rfl⟩
          replace H : (watchmanref08_Pass.l0 k2 a1 (wrap64 (x7_2 + 1)) a0_0 a0_1 l0_2 a0_0 a1 y327) = some (r1, r2, r3, r4) := by first | (rw [hy327]; with_reducible exact H) | (have H2_ := (Option.bind_some _ _).symm.trans H; rw [hy327]; with_reducible exact H2_) | (have H2_ := (Option.bind_some _ _).symm.trans H; with_reducible exact H2_) | with_reducible exact H | (rw [hy327]; exact H) | exact H
          have Ny327 := Aside0.mk hy327
          clear hy327
          have H' := Aside0.mk H
          clear H
          have hnb35 := NB315_316.out
          have hnc35 := NB316_315.out
          have hnb36 := NB315_318.out
          have hnc36 := NB318_315.out
          have hcz37_0 : wr.cell? ⟨gb315, 0, none⟩ = some (.int .i64 a0_0) := (blk_cell BK315.out 0).trans rfl
          have hcz37_1 : wr.cell? ⟨gb315, 1, none⟩ = some (.int .i64 a0_1) := (blk_cell BK315.out 1).trans rfl
          have hcz37_2 : wr.cell? ⟨gb315, 2, none⟩ = some (.slice A0_2 l0_2.length c0_2) := (blk_cell BK315.out 2).trans rfl
          have hfz37_0 := blk_frozen BK315.out 0
          have hfz37_1 := blk_frozen BK315.out 1
          have hfz37_2 := blk_frozen BK315.out 2
          have p319 : 0 ≤ (x7_2 : Int) := of_decide_eq_true (by first | (with_reducible assumption) | assumption)
          have q319 : x7_2 < (l0_2.length : Int) := of_decide_eq_true (by first | (with_reducible assumption) | assumption)
          obtain ⟨ad319, e319, hx319_0, hx319_1, hx319_2, hx319_3, hx319_4, hx319_5⟩ := at_T28 HR0_2.out x7_2 p319 q319
          cases e319
          replace hx319_0 := (HB.out.cell (World.block_lt_of_cell? w _ hx319_0)).trans hx319_0
          replace hx319_1 := (HB.out.cell (World.block_lt_of_cell? w _ hx319_1)).trans hx319_1
          replace hx319_2 := (HB.out.cell (World.block_lt_of_cell? w _ hx319_2)).trans hx319_2
          replace hx319_3 := (HB.out.cell (World.block_lt_of_cell? w _ hx319_3)).trans hx319_3
          replace hx319_4 := (HB.out.cell (World.block_lt_of_cell? w _ hx319_4)).trans hx319_4
          replace hx319_5 := (HB.out.cell (World.block_lt_of_cell? w _ hx319_5)).trans hx319_5
          replace p319 := eq_true p319
          replace q319 := eq_true q319
          go_wp2_with (first | ((with_reducible refine gate_callee (f := 57) rfl ?_); refine goesL_ (some 43) rfl rfl Try.func57 (by kernel_rfl) rfl #[.agg #[.int .i64 ((rd_T28 l0_2 x7_2).f0.f0), .int .i64 ((rd_T28 l0_2 x7_2).f0.f1), .int .i64 ((rd_T28 l0_2 x7_2).f1), .int .i64 ((rd_T28 l0_2 x7_2).f2), .int .i64 ((rd_T28 l0_2 x7_2).f3), .int .i64 ((rd_T28 l0_2 x7_2).f4)], .int .i64 a1] rfl (by (try simp only [List.map_toArray, List.map_cons, List.map_nil]); first | done | rfl | (simp only [List.length_drop, List.length_take]; rfl)) ?_; (with_reducible refine (watchmanref06_Pass.calls k2 ((rd_T28 l0_2 x7_2).f0.f0) ((rd_T28 l0_2 x7_2).f0.f1) ((rd_T28 l0_2 x7_2).f1) ((rd_T28 l0_2 x7_2).f2) ((rd_T28 l0_2 x7_2).f3) ((rd_T28 l0_2 x7_2).f4) a1 t320 t321 t322 t323 t324 t325 _ A33.out).mono ?_); rintro e w38 ⟨rfl, hb⟩; refine ⟨_, rfl, ?_⟩; replace HO_319002 := rb_ HO_319002 hb; replace BK315 := bl_ BK315 hb; replace BK316 := bl_ BK316 hb; replace BK318 := bl_ BK318 hb; replace HB := Aside0.mk (below_step (by repeat (with_reducible first | exact HB.out | apply pw_below_drewN | apply below_drew1 | refine below_set ?_ (Aside0.out (by assumption)))) hb); (try clear hb); (try clear hb2); (try clear hk); (try clear hi)) | ((with_reducible refine gate_dst (N := 8) rfl ?_); refine box_event ?hg (N := 8) ?hd (cs := #[.int .i64 0, .int .i64 0, .int .i64 0, .int .i64 0, .int .i64 0, .int .i64 0]) (t := 28) ?hr ?_; (case hd => rfl); (case hg => rfl); (case hr => first | (go_simp; done) | (go_simp; rfl)); intro gb326 hg w39 hbox hb; replace HO_319002 := Aside0.mk (Kd.R_below (Kd.R_elderB (HO_319002.out) gb326 (Nat.le_of_eq hg.symm)) hb); have BK326 := Aside0.mk (hbox); have GW326 := Aside0.mk ((by rw [hg]; exact (below_size (by repeat (with_reducible first | exact HB.out | apply pw_below_drewN | apply below_drew1 | refine below_set ?_ (Aside0.out (by assumption))))) : w.heap.size ≤ gb326)); have GE326 := Aside0.mk ((by rw [hg]; exact (below_size (by repeat (with_reducible first | exact HB.out | apply pw_below_drewN | apply below_drew1 | refine below_set ?_ (Aside0.out (by assumption))))) : w.heap.size ≤ gb326)); replace HB := Aside0.mk (below_step (by repeat (with_reducible first | exact HB.out | apply pw_below_drewN | apply below_drew1 | refine below_set ?_ (Aside0.out (by assumption)))) hb); have NB315_326 := Aside0.mk ((by rw [hg]; exact Nat.ne_of_lt (blk_lt BK315.out) : gb315 ≠ gb326)); have NB326_315 := Aside0.mk ((by rw [hg]; exact Nat.ne_of_gt (blk_lt BK315.out) : gb326 ≠ gb315)); replace BK315 := bl_ BK315 hb; have NB316_326 := Aside0.mk ((by rw [hg]; exact Nat.ne_of_lt (blk_lt BK316.out) : gb316 ≠ gb326)); have NB326_316 := Aside0.mk ((by rw [hg]; exact Nat.ne_of_gt (blk_lt BK316.out) : gb326 ≠ gb316)); replace BK316 := bl_ BK316 hb; have NB318_326 := Aside0.mk ((by rw [hg]; exact Nat.ne_of_lt (blk_lt BK318.out) : gb318 ≠ gb326)); have NB326_318 := Aside0.mk ((by rw [hg]; exact Nat.ne_of_gt (blk_lt BK318.out) : gb326 ≠ gb318)); replace BK318 := bl_ BK318 hb; clear hb hbox hg; have hnb40 := NB326_315.out; have hnc40 := NB315_326.out; have hnb41 := NB326_316.out; have hnc41 := NB316_326.out; have hnb42 := NB326_318.out; have hnc42 := NB318_326.out; have hcz43_0 : w39.cell? ⟨gb326, 0, none⟩ = some (.int .i64 0) := (blk_cell BK326.out 0).trans rfl; have hcz43_1 : w39.cell? ⟨gb326, 1, none⟩ = some (.int .i64 0) := (blk_cell BK326.out 1).trans rfl; have hcz43_2 : w39.cell? ⟨gb326, 2, none⟩ = some (.int .i64 0) := (blk_cell BK326.out 2).trans rfl; have hcz43_3 : w39.cell? ⟨gb326, 3, none⟩ = some (.int .i64 0) := (blk_cell BK326.out 3).trans rfl; have hcz43_4 : w39.cell? ⟨gb326, 4, none⟩ = some (.int .i64 0) := (blk_cell BK326.out 4).trans rfl; have hcz43_5 : w39.cell? ⟨gb326, 5, none⟩ = some (.int .i64 0) := (blk_cell BK326.out 5).trans rfl; have hfz43_0 := blk_frozen BK326.out 0; have hfz43_1 := blk_frozen BK326.out 1; have hfz43_2 := blk_frozen BK326.out 2; have hfz43_3 := blk_frozen BK326.out 3; have hfz43_4 := blk_frozen BK326.out 4; have hfz43_5 := blk_frozen BK326.out 5; have hnb44 := NB318_316.out; have hnc44 := NB316_318.out; have hcz45_0 : w39.cell? ⟨gb318, 0, none⟩ = some (.int .i64 a0_0) := (blk_cell BK318.out 0).trans rfl; have hcz45_1 : w39.cell? ⟨gb318, 1, none⟩ = some (.int .i64 a1) := (blk_cell BK318.out 1).trans rfl; have hcz45_2 : w39.cell? ⟨gb318, 2, none⟩ = some (u319002) := (blk_cell BK318.out 2).trans rfl; have hfz45_0 := blk_frozen BK318.out 0; have hfz45_1 := blk_frozen BK318.out 1; have hfz45_2 := blk_frozen BK318.out 2) | ((with_reducible refine gate_builtin (b := .append) (xs := #[.tmp 45, .tmp 47]) rfl ?_); at_builtin; refine Kd.R_append k28 (w0 := w) w.heap.size rfl (.tmp 45) (.tmp 47) 22 28 (.agg #[(.int .i64 0), (.int .i64 0), (.int .i64 0), (.int .i64 0), (.int .i64 0), (.int .i64 0)]) 48 rfl Try.underlying22 info28 rfl (by decide) (by omega) u319002 x319002_2 (⟨(⟨t320, t321⟩ : S26), t322, t323, t324, t325⟩ : S28) [.int .i64 t320, .int .i64 t321, .int .i64 t322, .int .i64 t323, .int .i64 t324, .int .i64 t325] (fun k_ => k_ ≠ gb326) (fun _ => False) rfl (by first | (go_simp; done) | (go_simp; rfl)) ?aP (fun _ hk => hk.elim) ?aF ?aO ?aB ?aS ?aL ?_; (case aP => exact k28_mkM _ _ _ (⟨(⟨t320, t321⟩ : S26), t322, t323, t324, t325⟩ : S28)); (case aB => exact (by repeat (with_reducible first | exact HB.out | apply pw_below_drewN | apply below_drew1 | refine below_set ?_ (Aside0.out (by assumption))))); (case aF => exact (fun k_ hk => Kd.freshB (g := gb326) (o := .cells #[.int .i64 t320, .int .i64 t321, .int .i64 t322, .int .i64 t323, .int .i64 t324, .int .i64 t325] 28 (0, 0)) (by refine blk_put (cs := #[.int .i64 t320, .int .i64 t321, .int .i64 t322, .int .i64 t323, .int .i64 t324, .int .i64 0]) ?_ 5 _ rfl; refine blk_put (cs := #[.int .i64 t320, .int .i64 t321, .int .i64 t322, .int .i64 t323, .int .i64 0, .int .i64 0]) ?_ 4 _ rfl; refine blk_put (cs := #[.int .i64 t320, .int .i64 t321, .int .i64 t322, .int .i64 0, .int .i64 0, .int .i64 0]) ?_ 3 _ rfl; refine blk_put (cs := #[.int .i64 t320, .int .i64 t321, .int .i64 0, .int .i64 0, .int .i64 0, .int .i64 0]) ?_ 2 _ rfl; refine blk_put (cs := #[.int .i64 t320, .int .i64 0, .int .i64 0, .int .i64 0, .int .i64 0, .int .i64 0]) ?_ 1 _ rfl; refine blk_put (cs := #[.int .i64 0, .int .i64 0, .int .i64 0, .int .i64 0, .int .i64 0, .int .i64 0]) ?_ 0 _ rfl; exact BK326.out) k_ hk)); (case aO => exact (by (with_reducible repeat (first | apply Kd.R_alloc | apply Kd.R_drewN | apply Kd.R_drew)); exact Kd.R_mono (rf6 (Kd.R_mono HO_319002.out (fun k_ hk => (⟨hk, hk.2⟩ : _ ∧ k_ ≠ gb326))) (fun _ hk => hk.2) (.int .i64 t320) (.int .i64 t321) (.int .i64 t322) (.int .i64 t323) (.int .i64 t324) (.int .i64 t325)) (fun _ hk => hk.1.2))); (case aS => exact (below_size (by repeat (with_reducible first | exact HB.out | apply pw_below_drewN | apply below_drew1 | refine below_set ?_ (Aside0.out (by assumption)))))); (case aL => have := LMc34.out; omega); intro v328 w46 ho hb hg hat; rw [← Ny327.out] at ho; replace BK315 := Aside0.mk (blk_grown (g := gb315) (o := .cells #[.int .i64 a0_0, .int .i64 a0_1, .slice (some ad319) l0_2.length c0_2] 24 (0, 0)) (by refine blk_far ?_ NB315_326.out _; refine blk_far ?_ NB315_326.out _; refine blk_far ?_ NB315_326.out _; refine blk_far ?_ NB315_326.out _; refine blk_far ?_ NB315_326.out _; refine blk_far ?_ NB315_326.out _; exact BK315.out) hg (Kd.R_ne HO_319002.out BK315.out (by decide))); replace BK316 := Aside0.mk (blk_grown (g := gb316) (o := .cells #[.int .i64 0, .int .i64 0, .slice none 0 0] 24 (0, 0)) (by refine blk_far ?_ NB316_326.out _; refine blk_far ?_ NB316_326.out _; refine blk_far ?_ NB316_326.out _; refine blk_far ?_ NB316_326.out _; refine blk_far ?_ NB316_326.out _; refine blk_far ?_ NB316_326.out _; exact BK316.out) hg (Kd.R_ne HO_319002.out BK316.out (by decide))); replace BK318 := Aside0.mk (blk_grown (g := gb318) (o := .cells #[.int .i64 a0_0, .int .i64 a1, u319002] 24 (0, 0)) (by refine blk_far ?_ NB318_326.out _; refine blk_far ?_ NB318_326.out _; refine blk_far ?_ NB318_326.out _; refine blk_far ?_ NB318_326.out _; refine blk_far ?_ NB318_326.out _; refine blk_far ?_ NB318_326.out _; exact BK318.out) hg (Kd.R_ne HO_319002.out BK318.out (by decide))); replace BK326 := Aside0.mk (blk_grown (g := gb326) (o := .cells #[.int .i64 t320, .int .i64 t321, .int .i64 t322, .int .i64 t323, .int .i64 t324, .int .i64 t325] 28 (0, 0)) (by refine blk_put (cs := #[.int .i64 t320, .int .i64 t321, .int .i64 t322, .int .i64 t323, .int .i64 t324, .int .i64 0]) ?_ 5 _ rfl; refine blk_put (cs := #[.int .i64 t320, .int .i64 t321, .int .i64 t322, .int .i64 t323, .int .i64 0, .int .i64 0]) ?_ 4 _ rfl; refine blk_put (cs := #[.int .i64 t320, .int .i64 t321, .int .i64 t322, .int .i64 0, .int .i64 0, .int .i64 0]) ?_ 3 _ rfl; refine blk_put (cs := #[.int .i64 t320, .int .i64 t321, .int .i64 0, .int .i64 0, .int .i64 0, .int .i64 0]) ?_ 2 _ rfl; refine blk_put (cs := #[.int .i64 t320, .int .i64 0, .int .i64 0, .int .i64 0, .int .i64 0, .int .i64 0]) ?_ 1 _ rfl; refine blk_put (cs := #[.int .i64 0, .int .i64 0, .int .i64 0, .int .i64 0, .int .i64 0, .int .i64 0]) ?_ 0 _ rfl; exact BK326.out) hg (Kd.R_away HO_319002.out (fun _ hk => hk.2))); replace HB := Aside0.mk (hb); have HO329 := Aside0.mk (ho); clear HO_319002; clear ho hb hg hat; obtain ⟨Ao47, co47, eo47⟩ := Kd.R_slice HO329.out; subst eo47; have hcz48_0 : w46.cell? ⟨gb318, 0, none⟩ = some (.int .i64 a0_0) := (blk_cell BK318.out 0).trans rfl; have hcz48_1 : w46.cell? ⟨gb318, 1, none⟩ = some (.int .i64 a1) := (blk_cell BK318.out 1).trans rfl; have hcz48_2 : w46.cell? ⟨gb318, 2, none⟩ = some (u319002) := (blk_cell BK318.out 2).trans rfl; have hfz48_0 := blk_frozen BK318.out 0; have hfz48_1 := blk_frozen BK318.out 1; have hfz48_2 := blk_frozen BK318.out 2))
          go_roundg k2
          case measure => have := HJ2.out; have := HK2.out; omega
          case rel => exact ⟨(wrap64 (x7_2 + 1)), (y327), (.slice Ao47 y327.length co47), (by first | rfl | (simp; done) | (simp [*]; done)), H', ⟨by have := HJ2.out; have := HK2.out; omega⟩, ⟨by (with_reducible repeat (first | apply Kd.R_alloc | apply Kd.R_drewN | apply Kd.R_drew)); exact Kd.R_mono (Kd.R_far (p := ⟨gb318, 2, none⟩) (Kd.R_types HO329.out BK318.out (by decide)) (fun _ hk => hk.2) (.slice Ao47 y327.length co47)) (fun _ hk => trivial)⟩, ⟨by (with_reducible repeat (first | refine blk_drewN ?_ _ | refine blk_drew ?_ | refine blk_alloc ?_ _)); refine blk_far ?_ NB315_318.out _; (with_reducible repeat (first | refine blk_drewN ?_ _ | refine blk_drew ?_ | refine blk_alloc ?_ _)); exact BK315.out⟩, ⟨by (with_reducible repeat (first | refine blk_drewN ?_ _ | refine blk_drew ?_ | refine blk_alloc ?_ _)); refine blk_far ?_ NB316_318.out _; (with_reducible repeat (first | refine blk_drewN ?_ _ | refine blk_drew ?_ | refine blk_alloc ?_ _)); exact BK316.out⟩, ⟨by (with_reducible repeat (first | refine blk_drewN ?_ _ | refine blk_drew ?_ | refine blk_alloc ?_ _)); refine blk_put (cs := #[.int .i64 a0_0, .int .i64 a1, u319002]) ?_ 2 _ rfl; (with_reducible repeat (first | refine blk_drewN ?_ _ | refine blk_drew ?_ | refine blk_alloc ?_ _)); exact BK318.out⟩, ⟨by repeat (with_reducible first | exact HB.out | apply pw_below_drewN | apply below_drew1 | refine below_set ?_ (Aside0.out (by assumption)))⟩⟩
         ·rw [if_neg c34] at H
          exact absurd H (by simp)
        ·rw [if_neg c32] at H
         exact absurd H (by simp)
       ·rw [if_neg c31] at H
        have c31b0 : decide (x7_2 < (l0_2.length : Int)) = false := decide_eq_false c31
        clear c31
        replace H := Option.bind_eq_some_iff.mp H
        obtain ⟨t330, A490, H⟩ := H
        try dsimp only at H
        have A49 := Aside0.mk A490
        clear A490
        by_cases c50 : t330 = true
        ·subst c50
         rw [if_pos rfl] at H; try dsimp only at H
         simp only [Option.some.injEq, Prod.mk.injEq] at H
         obtain ⟨rfl, rfl, rfl, rfl⟩ := H
         have hnb51 := NB315_316.out
         have hnc51 := NB316_315.out
         have hnb52 := NB315_318.out
         have hnc52 := NB318_315.out
         have hcz53_0 : wr.cell? ⟨gb315, 0, none⟩ = some (.int .i64 a0_0) := (blk_cell BK315.out 0).trans rfl
         have hcz53_1 : wr.cell? ⟨gb315, 1, none⟩ = some (.int .i64 a0_1) := (blk_cell BK315.out 1).trans rfl
         have hcz53_2 : wr.cell? ⟨gb315, 2, none⟩ = some (.slice A0_2 l0_2.length c0_2) := (blk_cell BK315.out 2).trans rfl
         have hfz53_0 := blk_frozen BK315.out 0
         have hfz53_1 := blk_frozen BK315.out 1
         have hfz53_2 := blk_frozen BK315.out 2
         have hnb54 := NB318_316.out
         have hnc54 := NB316_318.out
         have hcz55_0 : wr.cell? ⟨gb318, 0, none⟩ = some (.int .i64 a0_0) := (blk_cell BK318.out 0).trans rfl
         have hcz55_1 : wr.cell? ⟨gb318, 1, none⟩ = some (.int .i64 a1) := (blk_cell BK318.out 1).trans rfl
         have hcz55_2 : wr.cell? ⟨gb318, 2, none⟩ = some (u319002) := (blk_cell BK318.out 2).trans rfl
         have hfz55_0 := blk_frozen BK318.out 0
         have hfz55_1 := blk_frozen BK318.out 1
         have hfz55_2 := blk_frozen BK318.out 2
         obtain ⟨Ao56, co56, eo56⟩ := Kd.R_slice HO_319002.out
         subst eo56
         go_wp2_with (first | ((with_reducible refine gate_callee (f := 33) rfl ?_); refine goesL_ (some 51) rfl rfl Try.func33 (by kernel_rfl) rfl #[.agg #[.int .i64 a0_0, .int .i64 a1, .slice Ao56 x319002_2.length co56]] rfl (by (try simp only [List.map_toArray, List.map_cons, List.map_nil]); first | done | rfl | (simp only [List.length_drop, List.length_take]; rfl)) ?_; (with_reducible refine (watchmanref08_Is.calls k2 a0_0 a1 _ _ x319002_2 true _ ?side1 ?side2 A49.out).mono ?_); (case side1 => repeat (first | exact (Kd.R_reads' HO_319002.out).2.2 | (with_reducible refine Kd.C_alloc ?_ _) | (with_reducible refine Kd.C_drewN ?_ _) | (with_reducible refine Kd.C_drew ?_))); (case side2 => exact (Kd.R_reads' HO_319002.out).2.1); rintro e w57 ⟨rfl, hb⟩; refine ⟨_, rfl, ?_⟩; replace HO_319002 := rb_ HO_319002 hb; replace BK315 := bl_ BK315 hb; replace BK316 := bl_ BK316 hb; replace BK318 := bl_ BK318 hb; replace HB := Aside0.mk (below_step (by repeat (with_reducible first | exact HB.out | apply pw_below_drewN | apply below_drew1 | refine below_set ?_ (Aside0.out (by assumption)))) hb); (try clear hb); (try clear hb2); (try clear hk); (try clear hi); have hcz58_0 : w57.cell? ⟨gb318, 0, none⟩ = some (.int .i64 a0_0) := (blk_cell BK318.out 0).trans rfl; have hcz58_1 : w57.cell? ⟨gb318, 1, none⟩ = some (.int .i64 a1) := (blk_cell BK318.out 1).trans rfl; have hcz58_2 : w57.cell? ⟨gb318, 2, none⟩ = some (.slice Ao56 x319002_2.length co56) := (blk_cell BK318.out 2).trans rfl; have hfz58_0 := blk_frozen BK318.out 0; have hfz58_1 := blk_frozen BK318.out 1; have hfz58_2 := blk_frozen BK318.out 2; have hcz59_0 : w57.cell? ⟨gb316, 0, none⟩ = some (.int .i64 0) := (blk_cell BK316.out 0).trans rfl; have hcz59_1 : w57.cell? ⟨gb316, 1, none⟩ = some (.int .i64 0) := (blk_cell BK316.out 1).trans rfl; have hcz59_2 : w57.cell? ⟨gb316, 2, none⟩ = some (.slice none 0 0) := (blk_cell BK316.out 2).trans rfl; have hfz59_0 := blk_frozen BK316.out 0; have hfz59_1 := blk_frozen BK316.out 1; have hfz59_2 := blk_frozen BK316.out 2))
         refine bodyPost_ret (results_ct rfl _ _ gb316 24 #[.int .i64 a0_0, .int .i64 a1, .slice Ao56 x319002_2.length co56] (0, 0) _ rfl (by refine blk_put (cs := #[.int .i64 a0_0, .int .i64 a1, .slice none 0 0]) ?_ 2 _ rfl; refine blk_put (cs := #[.int .i64 a0_0, .int .i64 0, .slice none 0 0]) ?_ 1 _ rfl; refine blk_put (cs := #[.int .i64 0, .int .i64 0, .slice none 0 0]) ?_ 0 _ rfl; exact BK316.out) Try.underlying24 rfl (by kernel_rfl)) rfl ?_
         exact ⟨_, by first | rfl | (simp [errW_none, errW_some] <;> rfl) | (simp [*, errW_none, errW_some] <;> rfl), by (with_reducible repeat (first | apply Kd.R_alloc | apply Kd.R_drewN | apply Kd.R_drew)); exact Kd.R_mono (rf3 (Kd.R_types HO_319002.out BK316.out (by decide)) (fun _ hk => hk.2) (.int .i64 a0_0) (.int .i64 a1) (.slice Ao56 x319002_2.length co56)) (fun _ hk => trivial), by repeat (with_reducible first | exact HB.out | apply pw_below_drewN | apply below_drew1 | refine below_set ?_ (Aside0.out (by assumption)))⟩
        ·replace c50 := Bool.eq_false_iff.mpr c50
         subst c50
         rw [if_neg (show ¬ (false = true) by decide)] at H; try dsimp only at H
         simp only [Option.some.injEq, Prod.mk.injEq] at H
         obtain ⟨rfl, rfl, rfl, rfl⟩ := H
         have hnb60 := NB315_316.out
         have hnc60 := NB316_315.out
         have hnb61 := NB315_318.out
         have hnc61 := NB318_315.out
         have hcz62_0 : wr.cell? ⟨gb315, 0, none⟩ = some (.int .i64 a0_0) := (blk_cell BK315.out 0).trans rfl
         have hcz62_1 : wr.cell? ⟨gb315, 1, none⟩ = some (.int .i64 a0_1) := (blk_cell BK315.out 1).trans rfl
         have hcz62_2 : wr.cell? ⟨gb315, 2, none⟩ = some (.slice A0_2 l0_2.length c0_2) := (blk_cell BK315.out 2).trans rfl
         have hfz62_0 := blk_frozen BK315.out 0
         have hfz62_1 := blk_frozen BK315.out 1
         have hfz62_2 := blk_frozen BK315.out 2
         have hnb63 := NB318_316.out
         have hnc63 := NB316_318.out
         have hcz64_0 : wr.cell? ⟨gb318, 0, none⟩ = some (.int .i64 a0_0) := (blk_cell BK318.out 0).trans rfl
         have hcz64_1 : wr.cell? ⟨gb318, 1, none⟩ = some (.int .i64 a1) := (blk_cell BK318.out 1).trans rfl
         have hcz64_2 : wr.cell? ⟨gb318, 2, none⟩ = some (u319002) := (blk_cell BK318.out 2).trans rfl
         have hfz64_0 := blk_frozen BK318.out 0
         have hfz64_1 := blk_frozen BK318.out 1
         have hfz64_2 := blk_frozen BK318.out 2
         obtain ⟨Ao65, co65, eo65⟩ := Kd.R_slice HO_319002.out
         subst eo65
         go_wp2_with (first | ((with_reducible refine gate_callee (f := 33) rfl ?_); refine goesL_ (some 51) rfl rfl Try.func33 (by kernel_rfl) rfl #[.agg #[.int .i64 a0_0, .int .i64 a1, .slice Ao65 x319002_2.length co65]] rfl (by (try simp only [List.map_toArray, List.map_cons, List.map_nil]); first | done | rfl | (simp only [List.length_drop, List.length_take]; rfl)) ?_; (with_reducible refine (watchmanref08_Is.calls k2 a0_0 a1 _ _ x319002_2 false _ ?side1 ?side2 A49.out).mono ?_); (case side1 => repeat (first | exact (Kd.R_reads' HO_319002.out).2.2 | (with_reducible refine Kd.C_alloc ?_ _) | (with_reducible refine Kd.C_drewN ?_ _) | (with_reducible refine Kd.C_drew ?_))); (case side2 => exact (Kd.R_reads' HO_319002.out).2.1); rintro e w66 ⟨rfl, hb⟩; refine ⟨_, rfl, ?_⟩; replace HO_319002 := rb_ HO_319002 hb; replace BK315 := bl_ BK315 hb; replace BK316 := bl_ BK316 hb; replace BK318 := bl_ BK318 hb; replace HB := Aside0.mk (below_step (by repeat (with_reducible first | exact HB.out | apply pw_below_drewN | apply below_drew1 | refine below_set ?_ (Aside0.out (by assumption)))) hb); (try clear hb); (try clear hb2); (try clear hk); (try clear hi); have hcz67_0 : w66.cell? ⟨gb316, 0, none⟩ = some (.int .i64 0) := (blk_cell BK316.out 0).trans rfl; have hcz67_1 : w66.cell? ⟨gb316, 1, none⟩ = some (.int .i64 0) := (blk_cell BK316.out 1).trans rfl; have hcz67_2 : w66.cell? ⟨gb316, 2, none⟩ = some (.slice none 0 0) := (blk_cell BK316.out 2).trans rfl; have hfz67_0 := blk_frozen BK316.out 0; have hfz67_1 := blk_frozen BK316.out 1; have hfz67_2 := blk_frozen BK316.out 2))
         refine bodyPost_ret (results_ct rfl _ _ gb316 24 #[.int .i64 0, .int .i64 0, .slice none 0 0] (0, 0) _ rfl (by refine blk_put (cs := #[.int .i64 0, .int .i64 0, .slice none 0 0]) ?_ 2 _ rfl; refine blk_put (cs := #[.int .i64 0, .int .i64 0, .slice none 0 0]) ?_ 1 _ rfl; refine blk_put (cs := #[.int .i64 0, .int .i64 0, .slice none 0 0]) ?_ 0 _ rfl; exact BK316.out) Try.underlying24 rfl (by kernel_rfl)) rfl ?_
         exact ⟨_, by first | rfl | (simp [errW_none, errW_some] <;> rfl) | (simp [*, errW_none, errW_some] <;> rfl), by first | exact Kd.R_nil _ _ _ _ _ | exact Kd.N_nil _ _ _ _ _ | exact Kd.V_nil _ _ _ _ _ | exact Kd.Q_nil _ _ _ _ _ | exact Kd.S_nil _ _ _ _ _, by repeat (with_reducible first | exact HB.out | apply pw_below_drewN | apply below_drew1 | refine below_set ?_ (Aside0.out (by assumption)))⟩

/-! ### api_Alarm_58: function 58 -/
def ix_Alarm (p : S28 → Bool) (l : List S28) : Int := match l.findIdx? p with | some i => (i : Int) | none => -1
theorem ix_Alarm_hit (p : S28 → Bool) (l : List S28) (i : Nat) (hi : i < l.length) (h : p (rd_T28 l (i : Int)) = true) (hn : ∀ j, j < i → p (rd_T28 l (j : Int)) = false) : ix_Alarm p l = (i : Int) := by
  have e : l.findIdx? p = some i := by
    rw [List.findIdx?_eq_some_iff_getElem]
    refine ⟨hi, ?_, fun j hj => ?_⟩
    · simpa [rd_T28, List.getD_eq_getElem?_getD, List.getElem?_eq_getElem hi] using h
    · have := hn j hj
      simpa [rd_T28, List.getD_eq_getElem?_getD, List.getElem?_eq_getElem (show j < l.length by omega)] using this
  unfold ix_Alarm; rw [e]
theorem ix_Alarm_miss (p : S28 → Bool) (l : List S28) (hn : ∀ j, j < l.length → p (rd_T28 l (j : Int)) = false) : ix_Alarm p l = -1 := by
  have e : l.findIdx? p = none := by
    rw [List.findIdx?_eq_none_iff]
    intro x hx
    obtain ⟨j, hj, rfl⟩ := List.mem_iff_getElem.1 hx
    have := hn j hj
    simpa [rd_T28, List.getD_eq_getElem?_getD, List.getElem?_eq_getElem hj] using this
  unfold ix_Alarm; rw [e]
set_option maxHeartbeats 8000000 in
set_option maxRecDepth 100000 in
theorem ixfunc_Alarm.calls (p : S28 → Bool) (g : Nat) (lb : Array Value) (eg : ∀ args w, (callFunc g args).run Try.prog w = .ok (.enter g args) w) (A0 : Option Addr) (c0 : Nat) (l0 : List S28) (w : World)
    (hp : ∀ (W : World) (x : S28), Below w.heap.size w W → Calls Try.prog g (#[.agg #[.int .i64 x.f0.f0, .int .i64 x.f0.f1, .int .i64 x.f1, .int .i64 x.f2, .int .i64 x.f3, .int .i64 x.f4]] ++ lb) W fun e w' => e = .returned (.bool (p x)) ∧ Below w.heap.size w w')
    (hr0 : Kd.C k28 w A0 l0.length l0) :
    Calls Try.prog 58 #[.slice A0 l0.length c0, .func (.func g) #[] lb] w fun e w' => e = .returned (.int .i64 (ix_Alarm p l0)) ∧ Below w.heap.size w w' := by
  have hu_ := Try.underlying28
  have hbig := hr0.2.1
  have HR0 := Aside0.mk hr0
  have HP := Aside0.mk hp
  clear hr0 hp
  go_enter Try.func58, Try.ntmps58
  go_wp2
  go_loopg [5, 8] l0.length (fun gg _ s8 wr => ∃ kk : Nat, kk ≤ l0.length ∧ l0.length - kk ≤ gg ∧ s8 = .int .i64 kk ∧ Aside0 (Below w.heap.size w wr) ∧ Aside0 (∀ j, j < kk → p (rd_T28 l0 (j : Int)) = false))
  case atStart => exact ⟨0, Nat.zero_le _, by omega, rfl, ⟨Below.refl _ w⟩, ⟨fun j hj => absurd hj (Nat.not_lt_zero _)⟩⟩
  case round =>
    obtain ⟨kk, hkk, hg, rfl, BW, A⟩ := hrel
    by_cases hlt : kk < l0.length
    · have hltz : (kk : Int) < (l0.length : Int) := by omega
      obtain ⟨ad, e0, hx0, hx1, hx2, hx3, hx4, hx5⟩ := at_T28 (Kd.C_below HR0.out BW.out) (kk : Int) (by omega) hltz
      cases e0
      simp only [Int.toNat_natCast] at hx0 hx1 hx2 hx3 hx4 hx5
      have hcall := HP.out wr (rd_T28 l0 (kk : Int))  BW.out
      generalize hy_ : rd_T28 l0 (kk : Int) = y_ at hcall hx0 hx1 hx2 hx3 hx4 hx5
      have Y := Aside0.mk hy_
      clear hy_
      cases hq : p y_ with
      | true =>
        rw [hq] at hcall
        have Q := Aside0.mk hq
        clear hq
        go_wp2_with (go_at_fn g; refine hcall.mono ?_; rintro e w' ⟨rfl, hb'⟩)
        go_ret
        exact ⟨by rw [ix_Alarm_hit p l0 kk hlt (by rw [Y.out]; exact Q.out) A.out]; rfl, hb'⟩
      | false =>
        rw [hq] at hcall
        have Q := Aside0.mk hq
        clear hq
        go_wp2_with (go_at_fn g; refine hcall.mono ?_; rintro e w' ⟨rfl, hb'⟩)
        go_roundg (l0.length - (kk + 1))
        case measure => omega
        case rel =>
          refine ⟨kk + 1, by omega, by omega, by go_num, ⟨hb'⟩, ⟨fun j hj => ?_⟩⟩
          by_cases e : j = kk
          · subst e; rw [Y.out]; exact Q.out
          · exact A.out j (by omega)
    · have hltz : ¬ (kk : Int) < (l0.length : Int) := by omega
      go_wp2
      go_ret
      exact ⟨by rw [ix_Alarm_miss p l0 (fun j hj => A.out j (by omega))]; rfl, BW.out⟩

/-! ### board_Get: function 21 -/
def board_Get.f (a0_0 : Int) (a0_1 : Int) (l0_2 : List S28) (a1_0 : Int) (a1_1 : Int) : Option (Int × Int × Int × Int × Int × Int × Bool) := if ix_Alarm (fun x => decide (x.f0.f0 = a1_0) && decide (x.f0.f1 = a1_1)) l0_2 < 0 then some (0, 0, 0, 0, 0, 0, false) else some ((rd_T28 l0_2 (ix_Alarm (fun x => decide (x.f0.f0 = a1_0) && decide (x.f0.f1 = a1_1)) l0_2)).f0.f0, (rd_T28 l0_2 (ix_Alarm (fun x => decide (x.f0.f0 = a1_0) && decide (x.f0.f1 = a1_1)) l0_2)).f0.f1, (rd_T28 l0_2 (ix_Alarm (fun x => decide (x.f0.f0 = a1_0) && decide (x.f0.f1 = a1_1)) l0_2)).f1, (rd_T28 l0_2 (ix_Alarm (fun x => decide (x.f0.f0 = a1_0) && decide (x.f0.f1 = a1_1)) l0_2)).f2, (rd_T28 l0_2 (ix_Alarm (fun x => decide (x.f0.f0 = a1_0) && decide (x.f0.f1 = a1_1)) l0_2)).f3, (rd_T28 l0_2 (ix_Alarm (fun x => decide (x.f0.f0 = a1_0) && decide (x.f0.f1 = a1_1)) l0_2)).f4, true)
theorem ix_Alarm_lt (p : S28 → Bool) (l : List S28) (h : ¬ ix_Alarm p l < 0) : ix_Alarm p l < (l.length : Int) := by
  unfold ix_Alarm at h ⊢
  cases e : l.findIdx? p with
  | none => rw [e] at h; exact absurd h (by decide)
  | some i =>
    rw [List.findIdx?_eq_some_iff_getElem] at e
    obtain ⟨hi, _⟩ := e
    show (i : Int) < _
    omega
theorem board_Get.one (s0 s1 : Int) (B : Nat) (w : World) (hB : B < w.heap.size) (hcell0 : w.cell? ⟨B, 0, none⟩ = some (.int .i64 s0)) (hcell1 : w.cell? ⟨B, 1, none⟩ = some (.int .i64 s1)) (W : World) (x : S28) (hb : Below w.heap.size w W) :
    Calls Try.prog 59 (#[.agg #[.int .i64 x.f0.f0, .int .i64 x.f0.f1, .int .i64 x.f1, .int .i64 x.f2, .int .i64 x.f3, .int .i64 x.f4]] ++ #[.pointer (some ⟨B, 0, none⟩)]) W fun e w' => e = .returned (.bool (decide (x.f0.f0 = s0) && decide (x.f0.f1 = s1))) ∧ Below w.heap.size w w' := by
  have hc0 : W.cell? ⟨B, 0, none⟩ = some (.int .i64 s0) := (hb.cell (p := ⟨B, 0, none⟩) hB).trans hcell0
  have hc1 : W.cell? ⟨B, 1, none⟩ = some (.int .i64 s1) := (hb.cell (p := ⟨B, 1, none⟩) hB).trans hcell1
  have hBW : B < W.heap.size := Nat.lt_of_lt_of_le hB hb.size
  have hne : B ≠ W.heap.size := by omega
  obtain ⟨⟨x0, x1⟩, x2, x3, x4, x5⟩ := x
  show Calls Try.prog 59 #[.agg #[.int .i64 x0, .int .i64 x1, .int .i64 x2, .int .i64 x3, .int .i64 x4, .int .i64 x5], .pointer (some ⟨B, 0, none⟩)] W _
  clear hcell0 hcell1
  by_cases h0 : x0 = s0
  · by_cases h1 : x1 = s1
    · subst h0; subst h1
      go_enter Try.func59, Try.ntmps59
      go_wp2
      all_goals (go_ret; exact ⟨by first | (simp_all; done) | (simp_all; rfl), hb.alloc hb.size _⟩)
    · have d1 : decide (x1 = s1) = false := decide_eq_false h1
      have d2 : (x1 == s1) = false := by rw [beq_eq_false_iff_ne]; exact h1
      subst h0
      go_enter Try.func59, Try.ntmps59
      go_wp2
      all_goals (go_ret; exact ⟨by first | (simp_all; done) | (simp_all; rfl), hb.alloc hb.size _⟩)
  · have d1 : decide (x0 = s0) = false := decide_eq_false h0
    have d2 : (x0 == s0) = false := by rw [beq_eq_false_iff_ne]; exact h0
    go_enter Try.func59, Try.ntmps59
    go_wp2
    all_goals (go_ret; exact ⟨by first | (simp_all; done) | (simp_all; rfl), hb.alloc hb.size _⟩)
set_option maxHeartbeats 8000000 in
set_option maxRecDepth 100000 in
theorem board_Get.calls (a0_0 : Int) (a0_1 : Int) (A0_2 : Option Addr) (c0_2 : Nat) (l0_2 : List S28) (a1_0 : Int) (a1_1 : Int) (r1 : Int) (r2 : Int) (r3 : Int) (r4 : Int) (r5 : Int) (r6 : Int) (r7 : Bool) (w : World) (hr0_2 : Kd.C k28 w A0_2 l0_2.length l0_2) (hc0_2 : l0_2.length ≤ c0_2) (h : board_Get.f a0_0 a0_1 l0_2 a1_0 a1_1 = some (r1, r2, r3, r4, r5, r6, r7)) :
    Calls Try.prog 21 #[.agg #[.int .i64 a0_0, .int .i64 a0_1, .slice A0_2 l0_2.length c0_2], .agg #[.int .i64 a1_0, .int .i64 a1_1]] w fun e w' => e = .returned (.tuple #[.agg #[.int .i64 r1, .int .i64 r2, .int .i64 r3, .int .i64 r4, .int .i64 r5, .int .i64 r6], .bool r7]) ∧ Below w.heap.size w w' := by
  have hu24 := Try.underlying24
  have hu26 := Try.underlying26
  have hu28 := Try.underlying28
  have eg : ∀ args w, (callFunc 59 args).run Try.prog w = .ok (.enter 59 args) w := enters_of Try.func59 (by kernel_rfl) rfl
  have HR := Aside0.mk hr0_2
  have HC := Aside0.mk hc0_2
  clear hr0_2 hc0_2
  have HB := Aside0.mk (Below.refl w.heap.size w)
  unfold board_Get.f at h
  generalize hq : ix_Alarm (fun x => decide (x.f0.f0 = a1_0) && decide (x.f0.f1 = a1_1)) l0_2 = q at h
  have Q := Aside0.mk hq
  by_cases c : q < 0
  · rw [if_pos c] at h
    have c0 : decide (q < 0) = true := decide_eq_true c
    simp only [Option.some.injEq, Prod.mk.injEq] at h
    obtain ⟨rfl, rfl, rfl, rfl, rfl, rfl, rfl⟩ := h
    clear c hq
    go_enter Try.func21, Try.ntmps21
    go_wp2_with (first | ((with_reducible refine gate_dst (N := 2) rfl ?_); refine box_event ?hg (N := 2) ?hd (cs := #[.int .i64 a0_0, .int .i64 a0_1, .slice A0_2 l0_2.length c0_2]) (t := 24) ?hr ?_; (case hd => rfl); (case hg => rfl); (case hr => first | (go_simp; done) | (go_simp; rfl)); intro gbB hg w3 hbox hb; have n0_ := Aside0.mk (below_step HB.out hb); have n1_ := Aside0.mk hbox; have n2_ := Aside0.mk ((by rw [hg]; exact (below_size HB.out)) : w.heap.size ≤ gbB); clear HB; have HB := n0_; have BKB := n1_; have GEB := n2_; clear n0_ n1_ n2_; clear hb hbox hg) | ((with_reducible refine gate_dst (N := 3) rfl ?_); refine box_event ?hg (N := 3) ?hd (cs := #[.int .i64 a1_0, .int .i64 a1_1]) (t := 26) ?hr ?_; (case hd => rfl); (case hg => rfl); (case hr => first | (go_simp; done) | (go_simp; rfl)); intro gbS hg w4 hbox hb; have n0_ := Aside0.mk (below_step HB.out hb); have n1_ := Aside0.mk hbox; have n2_ := Aside0.mk ((by rw [hg]; exact (below_size HB.out)) : w.heap.size ≤ gbS); have m0_ := Aside0.mk (blk_below BKB.out hb); clear HB; clear BKB; have HB := n0_; have BKS := n1_; have GES := n2_; have BKB := m0_; clear n0_ n1_ n2_ m0_; clear hb hbox hg) | ((with_reducible refine gate_dst (N := 4) rfl ?_); refine box_event ?hg (N := 4) ?hd (cs := #[.int .i64 0, .int .i64 0, .int .i64 0, .int .i64 0, .int .i64 0, .int .i64 0]) (t := 28) ?hr ?_; (case hd => rfl); (case hg => rfl); (case hr => first | (go_simp; done) | (go_simp; rfl)); intro gbZ hg w5 hbox hb; have n0_ := Aside0.mk (below_step HB.out hb); have n1_ := Aside0.mk hbox; have n2_ := Aside0.mk ((by rw [hg]; exact (below_size HB.out)) : w.heap.size ≤ gbZ); have m0_ := Aside0.mk (blk_below BKB.out hb); have m1_ := Aside0.mk (blk_below BKS.out hb); clear HB; clear BKB; clear BKS; have HB := n0_; have BKZ := n1_; have GEZ := n2_; have BKB := m0_; have BKS := m1_; clear n0_ n1_ n2_ m0_ m1_; clear hb hbox hg; have hczB_0 : w5.cell? ⟨gbB, 0, none⟩ = some (.int .i64 a0_0) := (blk_cell BKB.out 0).trans rfl; have hczB_1 : w5.cell? ⟨gbB, 1, none⟩ = some (.int .i64 a0_1) := (blk_cell BKB.out 1).trans rfl; have hczB_2 : w5.cell? ⟨gbB, 2, none⟩ = some (.slice A0_2 l0_2.length c0_2) := (blk_cell BKB.out 2).trans rfl; have HCON := Aside0.mk (ixfunc_Alarm.calls (fun x => decide (x.f0.f0 = a1_0) && decide (x.f0.f1 = a1_1)) 59 #[.pointer (some ⟨gbS, 0, none⟩)] eg A0_2 c0_2 l0_2 w5 (fun W x hb => board_Get.one a1_0 a1_1 gbS w5 (blk_lt BKS.out) ((blk_cell BKS.out 0).trans rfl) ((blk_cell BKS.out 1).trans rfl) W x hb) (Kd.C_below HR.out HB.out))) | (go_at_call 58; refine HCON.out.mono ?_; rintro e w6 ⟨rfl, hb⟩; rw [Q.out]; have n0_ := Aside0.mk (below_step HB.out hb); have m0_ := Aside0.mk (blk_below BKB.out hb); have m1_ := Aside0.mk (blk_below BKZ.out hb); clear HCON HB BKB BKZ; have HB := n0_; have BKB := m0_; have BKZ := m1_; clear n0_ m0_ m1_ hb; have hczZ_0 : w6.cell? ⟨gbZ, 0, none⟩ = some (.int .i64 0) := (blk_cell BKZ.out 0).trans rfl; have hczZ_1 : w6.cell? ⟨gbZ, 1, none⟩ = some (.int .i64 0) := (blk_cell BKZ.out 1).trans rfl; have hczZ_2 : w6.cell? ⟨gbZ, 2, none⟩ = some (.int .i64 0) := (blk_cell BKZ.out 2).trans rfl; have hczZ_3 : w6.cell? ⟨gbZ, 3, none⟩ = some (.int .i64 0) := (blk_cell BKZ.out 3).trans rfl; have hczZ_4 : w6.cell? ⟨gbZ, 4, none⟩ = some (.int .i64 0) := (blk_cell BKZ.out 4).trans rfl; have hczZ_5 : w6.cell? ⟨gbZ, 5, none⟩ = some (.int .i64 0) := (blk_cell BKZ.out 5).trans rfl; have hfzZ_0 := blk_frozen BKZ.out 0; have hfzZ_1 := blk_frozen BKZ.out 1; have hfzZ_2 := blk_frozen BKZ.out 2; have hfzZ_3 := blk_frozen BKZ.out 3; have hfzZ_4 := blk_frozen BKZ.out 4; have hfzZ_5 := blk_frozen BKZ.out 5))
    refine bodyPost_ret (results_ct rfl _ _ gbZ 28 #[.int .i64 0, .int .i64 0, .int .i64 0, .int .i64 0, .int .i64 0, .int .i64 0] (0, 0) _ rfl (by refine blk_put (cs := #[.int .i64 0, .int .i64 0, .int .i64 0, .int .i64 0, .int .i64 0, .int .i64 0]) ?_ 5 _ rfl; refine blk_put (cs := #[.int .i64 0, .int .i64 0, .int .i64 0, .int .i64 0, .int .i64 0, .int .i64 0]) ?_ 4 _ rfl; refine blk_put (cs := #[.int .i64 0, .int .i64 0, .int .i64 0, .int .i64 0, .int .i64 0, .int .i64 0]) ?_ 3 _ rfl; refine blk_put (cs := #[.int .i64 0, .int .i64 0, .int .i64 0, .int .i64 0, .int .i64 0, .int .i64 0]) ?_ 2 _ rfl; refine blk_put (cs := #[.int .i64 0, .int .i64 0, .int .i64 0, .int .i64 0, .int .i64 0, .int .i64 0]) ?_ 1 _ rfl; refine blk_put (cs := #[.int .i64 0, .int .i64 0, .int .i64 0, .int .i64 0, .int .i64 0, .int .i64 0]) ?_ 0 _ rfl; exact BKZ.out) Try.underlying28 rfl (by kernel_rfl)) rfl ?_
    exact ⟨by first | rfl | (simp; done) | (simp [*]; done), by repeat (with_reducible first | exact HB.out | refine below_set ?_ GEZ.out)⟩
  · rw [if_neg c] at h
    have c0 : decide (q < 0) = false := decide_eq_false c
    have c1 : decide (0 ≤ q) = true := decide_eq_true (by omega)
    have hlt : q < (l0_2.length : Int) := by rw [← hq]; exact ix_Alarm_lt _ _ (by rw [hq]; exact c)
    have c2 : decide (q < (l0_2.length : Int)) = true := decide_eq_true hlt
    simp only [Option.some.injEq, Prod.mk.injEq] at h
    obtain ⟨rfl, rfl, rfl, rfl, rfl, rfl, rfl⟩ := h
    have QP := Aside0.mk (show 0 ≤ q by omega)
    have QL := Aside0.mk hlt
    clear c hq hlt
    go_enter Try.func21, Try.ntmps21
    go_wp2_with (first | ((with_reducible refine gate_dst (N := 2) rfl ?_); refine box_event ?hg (N := 2) ?hd (cs := #[.int .i64 a0_0, .int .i64 a0_1, .slice A0_2 l0_2.length c0_2]) (t := 24) ?hr ?_; (case hd => rfl); (case hg => rfl); (case hr => first | (go_simp; done) | (go_simp; rfl)); intro gbB hg w3 hbox hb; have n0_ := Aside0.mk (below_step HB.out hb); have n1_ := Aside0.mk hbox; have n2_ := Aside0.mk ((by rw [hg]; exact (below_size HB.out)) : w.heap.size ≤ gbB); clear HB; have HB := n0_; have BKB := n1_; have GEB := n2_; clear n0_ n1_ n2_; clear hb hbox hg) | ((with_reducible refine gate_dst (N := 3) rfl ?_); refine box_event ?hg (N := 3) ?hd (cs := #[.int .i64 a1_0, .int .i64 a1_1]) (t := 26) ?hr ?_; (case hd => rfl); (case hg => rfl); (case hr => first | (go_simp; done) | (go_simp; rfl)); intro gbS hg w4 hbox hb; have n0_ := Aside0.mk (below_step HB.out hb); have n1_ := Aside0.mk hbox; have n2_ := Aside0.mk ((by rw [hg]; exact (below_size HB.out)) : w.heap.size ≤ gbS); have m0_ := Aside0.mk (blk_below BKB.out hb); clear HB; clear BKB; have HB := n0_; have BKS := n1_; have GES := n2_; have BKB := m0_; clear n0_ n1_ n2_ m0_; clear hb hbox hg) | ((with_reducible refine gate_dst (N := 4) rfl ?_); refine box_event ?hg (N := 4) ?hd (cs := #[.int .i64 0, .int .i64 0, .int .i64 0, .int .i64 0, .int .i64 0, .int .i64 0]) (t := 28) ?hr ?_; (case hd => rfl); (case hg => rfl); (case hr => first | (go_simp; done) | (go_simp; rfl)); intro gbZ hg w5 hbox hb; have n0_ := Aside0.mk (below_step HB.out hb); have n1_ := Aside0.mk hbox; have n2_ := Aside0.mk ((by rw [hg]; exact (below_size HB.out)) : w.heap.size ≤ gbZ); have m0_ := Aside0.mk (blk_below BKB.out hb); have m1_ := Aside0.mk (blk_below BKS.out hb); clear HB; clear BKB; clear BKS; have HB := n0_; have BKZ := n1_; have GEZ := n2_; have BKB := m0_; have BKS := m1_; clear n0_ n1_ n2_ m0_ m1_; clear hb hbox hg; have hczB_0 : w5.cell? ⟨gbB, 0, none⟩ = some (.int .i64 a0_0) := (blk_cell BKB.out 0).trans rfl; have hczB_1 : w5.cell? ⟨gbB, 1, none⟩ = some (.int .i64 a0_1) := (blk_cell BKB.out 1).trans rfl; have hczB_2 : w5.cell? ⟨gbB, 2, none⟩ = some (.slice A0_2 l0_2.length c0_2) := (blk_cell BKB.out 2).trans rfl; have HCON := Aside0.mk (ixfunc_Alarm.calls (fun x => decide (x.f0.f0 = a1_0) && decide (x.f0.f1 = a1_1)) 59 #[.pointer (some ⟨gbS, 0, none⟩)] eg A0_2 c0_2 l0_2 w5 (fun W x hb => board_Get.one a1_0 a1_1 gbS w5 (blk_lt BKS.out) ((blk_cell BKS.out 0).trans rfl) ((blk_cell BKS.out 1).trans rfl) W x hb) (Kd.C_below HR.out HB.out))) | (go_at_call 58; refine HCON.out.mono ?_; rintro e w6 ⟨rfl, hb⟩; rw [Q.out]; have n0_ := Aside0.mk (below_step HB.out hb); have m0_ := Aside0.mk (blk_below BKB.out hb); have m1_ := Aside0.mk (blk_below BKZ.out hb); clear HCON HB BKB BKZ; have HB := n0_; have BKB := m0_; have BKZ := m1_; clear n0_ m0_ m1_ hb; have hczB_0 : w6.cell? ⟨gbB, 0, none⟩ = some (.int .i64 a0_0) := (blk_cell BKB.out 0).trans rfl; have hczB_1 : w6.cell? ⟨gbB, 1, none⟩ = some (.int .i64 a0_1) := (blk_cell BKB.out 1).trans rfl; have hczB_2 : w6.cell? ⟨gbB, 2, none⟩ = some (.slice A0_2 l0_2.length c0_2) := (blk_cell BKB.out 2).trans rfl; have hczZ_0 : w6.cell? ⟨gbZ, 0, none⟩ = some (.int .i64 0) := (blk_cell BKZ.out 0).trans rfl; have hczZ_1 : w6.cell? ⟨gbZ, 1, none⟩ = some (.int .i64 0) := (blk_cell BKZ.out 1).trans rfl; have hczZ_2 : w6.cell? ⟨gbZ, 2, none⟩ = some (.int .i64 0) := (blk_cell BKZ.out 2).trans rfl; have hczZ_3 : w6.cell? ⟨gbZ, 3, none⟩ = some (.int .i64 0) := (blk_cell BKZ.out 3).trans rfl; have hczZ_4 : w6.cell? ⟨gbZ, 4, none⟩ = some (.int .i64 0) := (blk_cell BKZ.out 4).trans rfl; have hczZ_5 : w6.cell? ⟨gbZ, 5, none⟩ = some (.int .i64 0) := (blk_cell BKZ.out 5).trans rfl; have hfzZ_0 := blk_frozen BKZ.out 0; have hfzZ_1 := blk_frozen BKZ.out 1; have hfzZ_2 := blk_frozen BKZ.out 2; have hfzZ_3 := blk_frozen BKZ.out 3; have hfzZ_4 := blk_frozen BKZ.out 4; have hfzZ_5 := blk_frozen BKZ.out 5; obtain ⟨ad, e0, hx0, hx1, hx2, hx3, hx4, hx5⟩ := at_T28 (Kd.C_below HR.out HB.out) q QP.out QL.out; cases e0; have p_ := eq_true QP.out; have q_ := eq_true QL.out))
    refine bodyPost_ret (results_ct rfl _ _ gbZ 28 #[.int .i64 (rd_T28 l0_2 q).f0.f0, .int .i64 (rd_T28 l0_2 q).f0.f1, .int .i64 (rd_T28 l0_2 q).f1, .int .i64 (rd_T28 l0_2 q).f2, .int .i64 (rd_T28 l0_2 q).f3, .int .i64 (rd_T28 l0_2 q).f4] (0, 0) _ rfl (by refine blk_put (cs := #[.int .i64 (rd_T28 l0_2 q).f0.f0, .int .i64 (rd_T28 l0_2 q).f0.f1, .int .i64 (rd_T28 l0_2 q).f1, .int .i64 (rd_T28 l0_2 q).f2, .int .i64 (rd_T28 l0_2 q).f3, .int .i64 0]) ?_ 5 _ rfl; refine blk_put (cs := #[.int .i64 (rd_T28 l0_2 q).f0.f0, .int .i64 (rd_T28 l0_2 q).f0.f1, .int .i64 (rd_T28 l0_2 q).f1, .int .i64 (rd_T28 l0_2 q).f2, .int .i64 0, .int .i64 0]) ?_ 4 _ rfl; refine blk_put (cs := #[.int .i64 (rd_T28 l0_2 q).f0.f0, .int .i64 (rd_T28 l0_2 q).f0.f1, .int .i64 (rd_T28 l0_2 q).f1, .int .i64 0, .int .i64 0, .int .i64 0]) ?_ 3 _ rfl; refine blk_put (cs := #[.int .i64 (rd_T28 l0_2 q).f0.f0, .int .i64 (rd_T28 l0_2 q).f0.f1, .int .i64 0, .int .i64 0, .int .i64 0, .int .i64 0]) ?_ 2 _ rfl; refine blk_put (cs := #[.int .i64 (rd_T28 l0_2 q).f0.f0, .int .i64 0, .int .i64 0, .int .i64 0, .int .i64 0, .int .i64 0]) ?_ 1 _ rfl; refine blk_put (cs := #[.int .i64 0, .int .i64 0, .int .i64 0, .int .i64 0, .int .i64 0, .int .i64 0]) ?_ 0 _ rfl; exact BKZ.out) Try.underlying28 rfl (by kernel_rfl)) rfl ?_
    exact ⟨by first | rfl | (simp; done) | (simp [*]; done), by repeat (with_reducible first | exact HB.out | refine below_set ?_ GEZ.out)⟩

end Go.Proofs.Ytcfpbmdndapeaaa.F
