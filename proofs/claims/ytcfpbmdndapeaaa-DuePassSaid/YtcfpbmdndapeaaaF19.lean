-- Written by a program of this session (xprint.py), out of the translation and of contracts proved by hand.
import Derived.Test.YtcfpbmdndapeaaaF0
import Derived.Test.YtcfpbmdndapeaaaF2
import Derived.Test.YtcfpbmdndapeaaaF3
import Derived.Test.YtcfpbmdndapeaaaF5
import Derived.Test.YtcfpbmdndapeaaaF15
import Derived.Test.YtcfpbmdndapeaaaF17
import Derived.Test.YtcfpbmdndapeaaaF18
namespace Go.Proofs.Ytcfpbmdndapeaaa.F
open Go.RowKit Go.Proofs.YtcfpbmdndapeaaaV.PrintWords Go.Proofs.YtcfpbmdndapeaaaV.PrintLast Go.Proofs.YtcfpbmdndapeaaaV.PrintMore
attribute [local go_sem] max2_int min2_int max_two min_two max_three min_three max_four min_four   -- for this text's walks alone
set_option linter.unusedVariables false
set_option linter.unusedSimpArgs false

attribute [local go_sem high] eqA65
/-! ### board_Put: function 15 -/
def board_Put.f (k : Nat) (a0_0 : Int) (a0_1 : Int) (l0_2 : List (S28)) (a1_0 : Int) (a1_1 : Int) (a1_2 : Int) (a1_3 : Int) (a1_4 : Int) (a1_5 : Int) : Option (Int × Int × (List (S28)) × Int) := (board_Is.f k a0_0 a0_1 l0_2).bind fun t285 => (if t285 = true then ((alarm_Is.f a1_0 a1_1 a1_2 a1_3 a1_4 a1_5).bind fun t286 => (if t286 = true then (if a1_4 > a0_1 then (none) else ((board_open.f a0_0 a0_1 l0_2).bind fun bt287 => ((board_alarms_find.f k bt287.1 a1_0 a1_1).bind fun bt296 => (if bt296.2 = true then (none) else (if (l0_2.length : Int) = a0_0 then (none) else ((board_alarms_with.f k bt287.1 bt296.1 0 (([(⟨(⟨a1_0, a1_1⟩ : S26), a1_2, a1_3, a1_4, a1_5⟩ : S28)] : List (S28)))).bind fun t301 => ((board_sheet_now.f bt287.1 bt287.2.1 bt287.2.2.1 bt287.2.2.2 t301).bind fun bt304 => (some (bt304.1, bt304.2.1, bt304.2.2, 0))))))))) else (none))) else (none))
theorem board_Put.mono : ∀ a0 a1 a2 a3 a4 a5 a6 a7 a8 k, LeO (board_Put.f k a0 a1 a2 a3 a4 a5 a6 a7 a8) (board_Put.f (k + 1) a0 a1 a2 a3 a4 a5 a6 a7 a8) := by
 intro a0 a1 a2 a3 a4 a5 a6 a7 a8 k
 unfold board_Put.f
 repeat' first
  | (with_reducible exact board_Is.mono _ _ _ _)
  | (with_reducible exact board_alarms_find.mono _ _ _ _)
  | (with_reducible exact board_alarms_with.mono _ _ _ _ _)
  | (with_reducible exact LeO.refl _)
  | (with_reducible exact LeO.none _)
  | (with_reducible refine LeO.ite ?_ ?_)
  | (with_reducible refine LeO.bind ?_ (fun _ => ?_))
  | exact board_Is.mono _ _ _ _
  | exact board_alarms_find.mono _ _ _ _
  | exact board_alarms_with.mono _ _ _ _ _
  | exact LeO.none _
  | refine LeO.ite ?_ ?_
  | refine LeO.bind ?_ (fun _ => ?_)
def board_Put.T9 : Bool × List (List Nat × List Nat) := (true, [([], []), ([], []), ([1], [1]), ([], []), ([], []), ([4], [4]), ([2, 3, 5], [2, 3, 5]), ([0, 6, 6], [0, 6]), ([7, 7, 0, 1, 2, 3, 4, 5, 6, 7], [7]), ([8, 0, 1, 2, 3, 4, 5, 6, 7, 8], [])])
def board_Put.B9 : List Nat := [0, 0, 2, 0, 0, 16, 62, 127, 255, 511]
theorem board_Put.tab9 : rtab .any (opsOf Try.f15 9) = board_Put.T9 := by kernel_rfl
theorem board_Put.bits9 : waitsOk board_Put.T9.2 board_Put.B9 = true := by kernel_rfl
set_option maxHeartbeats 8000000 in
set_option maxRecDepth 100000 in
theorem board_Put.calls (k : Nat) (a0_0 : Int) (a0_1 : Int) (A0_2 : Option Addr) (c0_2 : Nat) (l0_2 : List (S28)) (a1_0 : Int) (a1_1 : Int) (a1_2 : Int) (a1_3 : Int) (a1_4 : Int) (a1_5 : Int) (r1 : Int) (r2 : Int) (r3 : List (S28)) (r4 : Int) (w : World) (hr0_2 : Kd.C k28 w A0_2 l0_2.length l0_2) (hc0_2 : l0_2.length ≤ c0_2) (h : board_Put.f k a0_0 a0_1 l0_2 a1_0 a1_1 a1_2 a1_3 a1_4 a1_5 = some (r1, r2, r3, r4)) :
 Calls Try.prog 15 #[.agg #[.int .i64 a0_0, .int .i64 a0_1, .slice A0_2 l0_2.length c0_2], .agg #[.int .i64 a1_0, .int .i64 a1_1, .int .i64 a1_2, .int .i64 a1_3, .int .i64 a1_4, .int .i64 a1_5]] w fun e w' => ∃ v2_ : Value, e = .returned (.tuple #[.agg #[.int .i64 r1, .int .i64 r2, v2_], .int .i64 r4]) ∧ Kd.R k28 28 w' w.heap.size (fun _ => True) v2_ r3 ∧ Below w.heap.size w w' := by
 have hu24 := Try.underlying24
 have hu28 := Try.underlying28
 have hu72 := Try.underlying72
 have hu26 := Try.underlying26
 have HR0_2 := Aside0.mk hr0_2
 have HC0_2 := Aside0.mk hc0_2
 clear hr0_2 hc0_2
 have HB := Aside0.mk (Below.refl w.heap.size w)
 have H : ((board_Is.f k a0_0 a0_1 l0_2).bind fun t285 => (if t285 = true then ((alarm_Is.f a1_0 a1_1 a1_2 a1_3 a1_4 a1_5).bind fun t286 => (if t286 = true then (if a1_4 > a0_1 then (none) else ((board_open.f a0_0 a0_1 l0_2).bind fun bt287 => ((board_alarms_find.f k bt287.1 a1_0 a1_1).bind fun bt296 => (if bt296.2 = true then (none) else (if (l0_2.length : Int) = a0_0 then (none) else ((board_alarms_with.f k bt287.1 bt296.1 0 (([(⟨(⟨a1_0, a1_1⟩ : S26), a1_2, a1_3, a1_4, a1_5⟩ : S28)] : List (S28)))).bind fun t301 => ((board_sheet_now.f bt287.1 bt287.2.1 bt287.2.2.1 bt287.2.2.2 t301).bind fun bt304 => (some (bt304.1, bt304.2.1, bt304.2.2, 0))))))))) else (none))) else (none))) = some (r1, r2, r3, r4) := h
 clear h
 replace H := Option.bind_eq_some_iff.mp H
 obtain ⟨t285, A30, H⟩ := H
 try dsimp only at H
 have A3 := Aside0.mk A30
 clear A30
 by_cases c4 : t285 = true
 ·subst c4
  rw [if_pos rfl] at H; try dsimp only at H
  replace H := Option.bind_eq_some_iff.mp H
  obtain ⟨t286, A50, H⟩ := H
  try dsimp only at H
  have A5 := Aside0.mk A50
  clear A50
  by_cases c6 : t286 = true
  ·subst c6
   rw [if_pos rfl] at H; try dsimp only at H
   by_cases c7 : a1_4 > a0_1
   ·rw [if_pos c7] at H
    exact absurd H (by simp)
   ·rw [if_neg c7] at H
    have c7b0 : decide (a0_1 < a1_4) = false := decide_eq_false c7
    clear c7
    replace H := Option.bind_eq_some_iff.mp H
    obtain ⟨⟨t287, t290, t291, t292⟩, A80, H⟩ := H
    try dsimp only at H
    have A8 := Aside0.mk A80
    clear A80
    replace H := Option.bind_eq_some_iff.mp H
    obtain ⟨⟨t296, t297⟩, A90, H⟩ := H
    try dsimp only at H
    have A9 := Aside0.mk A90
    clear A90
    by_cases c10 : t297 = true
    ·subst c10
     rw [if_pos rfl] at H; try dsimp only at H
     exact absurd H (by simp)
    ·replace c10 := Bool.eq_false_iff.mpr c10
     subst c10
     rw [if_neg (show ¬ (false = true) by decide)] at H; try dsimp only at H
     by_cases c11 : (l0_2.length : Int) = a0_0
     ·rw [if_pos c11] at H
      exact absurd H (by simp)
     ·rw [if_neg c11] at H
      have c11b0 : ((l0_2.length : Int) == a0_0) = false := beq_eq_false_iff_ne.mpr c11
      have c11b1 : ((l0_2.length : Int) != a0_0) = true := bne_iff_ne.mpr c11
      obtain ⟨y298, hy298⟩ : ∃ y_ : List (S28), y_ = (([(⟨(⟨a1_0, a1_1⟩ : S26), a1_2, a1_3, a1_4, a1_5⟩ : S28)] : List (S28))) := ⟨_, rfl⟩
      replace H : ((board_alarms_with.f k t287 t296 0 y298).bind fun t301 => ((board_sheet_now.f t287 t290 t291 t292 t301).bind fun bt304 => (some (bt304.1, bt304.2.1, bt304.2.2, 0)))) = some (r1, r2, r3, r4) := by first | (rw [hy298]; with_reducible exact H) | (have H2_ := (Option.bind_some _ _).symm.trans H; rw [hy298]; with_reducible exact H2_) | (have H2_ := (Option.bind_some _ _).symm.trans H; with_reducible exact H2_) | with_reducible exact H | (rw [hy298]; exact H) | exact H
      have Ny298 := Aside0.mk hy298
      clear hy298
      replace H := Option.bind_eq_some_iff.mp H
      obtain ⟨t301, A120, H⟩ := H
      try dsimp only at H
      have A12 := Aside0.mk A120
      clear A120
      replace H := Option.bind_eq_some_iff.mp H
      obtain ⟨⟨t304, t305, t306⟩, A130, H⟩ := H
      try dsimp only at H
      have A13 := Aside0.mk A130
      clear A130
      simp only [Option.some.injEq, Prod.mk.injEq] at H
      obtain ⟨rfl, rfl, rfl, rfl⟩ := H
      go_enter Try.func15, Try.ntmps15
      try go_wp2_with (first | ((with_reducible refine gate_dst (N := 2) rfl ?_); refine box_event ?hg (N := 2) ?hd (cs := #[.int .i64 a0_0, .int .i64 a0_1, .slice A0_2 l0_2.length c0_2]) (t := 24) ?hr ?_; (case hd => rfl); (case hg => rfl); (case hr => first | (go_simp; done) | (go_simp; rfl)); intro gb282 hg w14 hbox hb; have BK282 := Aside0.mk (hbox); have GW282 := Aside0.mk ((by rw [hg]; exact (below_size HB.out) : w.heap.size ≤ gb282)); have GE282 := Aside0.mk ((by rw [hg]; exact (below_size HB.out) : w.heap.size ≤ gb282)); replace HB := Aside0.mk (below_step HB.out hb); clear hb hbox hg) | ((with_reducible refine gate_dst (N := 3) rfl ?_); refine box_event ?hg (N := 3) ?hd (cs := #[.int .i64 a1_0, .int .i64 a1_1, .int .i64 a1_2, .int .i64 a1_3, .int .i64 a1_4, .int .i64 a1_5]) (t := 28) ?hr ?_; (case hd => rfl); (case hg => rfl); (case hr => first | (go_simp; done) | (go_simp; rfl)); intro gb283 hg w15 hbox hb; have BK283 := Aside0.mk (hbox); have GW283 := Aside0.mk ((by rw [hg]; exact (below_size (by repeat (with_reducible first | exact HB.out | apply pw_below_drewN | apply below_drew1 | refine below_set ?_ GE282.out))) : w.heap.size ≤ gb283)); have GE283 := Aside0.mk ((by rw [hg]; exact (below_size (by repeat (with_reducible first | exact HB.out | apply pw_below_drewN | apply below_drew1 | refine below_set ?_ GE282.out))) : w.heap.size ≤ gb283)); replace HB := Aside0.mk (below_step (by repeat (with_reducible first | exact HB.out | apply pw_below_drewN | apply below_drew1 | refine below_set ?_ GE282.out)) hb); have NB282_283 := Aside0.mk ((by rw [hg]; exact Nat.ne_of_lt (blk_lt BK282.out) : gb282 ≠ gb283)); have NB283_282 := Aside0.mk ((by rw [hg]; exact Nat.ne_of_gt (blk_lt BK282.out) : gb283 ≠ gb282)); replace BK282 := bl_ BK282 hb; clear hb hbox hg) | ((with_reducible refine gate_dst (N := 4) rfl ?_); refine box_event ?hg (N := 4) ?hd (cs := #[.int .i64 0, .int .i64 0, .slice none 0 0]) (t := 24) ?hr ?_; (case hd => rfl); (case hg => rfl); (case hr => first | (go_simp; done) | (go_simp; rfl)); intro gb284 hg w16 hbox hb; have BK284 := Aside0.mk (hbox); have GW284 := Aside0.mk ((by rw [hg]; exact (below_size (by repeat (with_reducible first | exact HB.out | apply pw_below_drewN | apply below_drew1 | refine below_set ?_ (Aside0.out (by assumption))))) : w.heap.size ≤ gb284)); have GE284 := Aside0.mk ((by rw [hg]; exact (below_size (by repeat (with_reducible first | exact HB.out | apply pw_below_drewN | apply below_drew1 | refine below_set ?_ (Aside0.out (by assumption))))) : w.heap.size ≤ gb284)); replace HB := Aside0.mk (below_step (by repeat (with_reducible first | exact HB.out | apply pw_below_drewN | apply below_drew1 | refine below_set ?_ (Aside0.out (by assumption)))) hb); have NB282_284 := Aside0.mk ((by rw [hg]; exact Nat.ne_of_lt (blk_lt BK282.out) : gb282 ≠ gb284)); have NB284_282 := Aside0.mk ((by rw [hg]; exact Nat.ne_of_gt (blk_lt BK282.out) : gb284 ≠ gb282)); replace BK282 := bl_ BK282 hb; have NB283_284 := Aside0.mk ((by rw [hg]; exact Nat.ne_of_lt (blk_lt BK283.out) : gb283 ≠ gb284)); have NB284_283 := Aside0.mk ((by rw [hg]; exact Nat.ne_of_gt (blk_lt BK283.out) : gb284 ≠ gb283)); replace BK283 := bl_ BK283 hb; clear hb hbox hg; have hnb17 := NB282_283.out; have hnc17 := NB283_282.out; have hnb18 := NB282_284.out; have hnc18 := NB284_282.out; have hcz19_0 : w16.cell? ⟨gb282, 0, none⟩ = some (.int .i64 a0_0) := (blk_cell BK282.out 0).trans rfl; have hcz19_1 : w16.cell? ⟨gb282, 1, none⟩ = some (.int .i64 a0_1) := (blk_cell BK282.out 1).trans rfl; have hcz19_2 : w16.cell? ⟨gb282, 2, none⟩ = some (.slice A0_2 l0_2.length c0_2) := (blk_cell BK282.out 2).trans rfl; have hfz19_0 := blk_frozen BK282.out 0; have hfz19_1 := blk_frozen BK282.out 1; have hfz19_2 := blk_frozen BK282.out 2) | ((with_reducible refine gate_callee (f := 32) rfl ?_); refine goesL_ (some 10) rfl rfl Try.func32 (by kernel_rfl) rfl #[.agg #[.int .i64 a0_0, .int .i64 a0_1, .slice A0_2 l0_2.length c0_2]] rfl (by (try simp only [List.map_toArray, List.map_cons, List.map_nil]); first | done | rfl | (simp only [List.length_drop, List.length_take]; rfl)) ?_; (with_reducible refine (board_Is.calls k a0_0 a0_1 _ _ l0_2 true _ ?side1 ?side2 A3.out).mono ?_); (case side1 => exact (Kd.C_below HR0_2.out HB.out)); (case side2 => exact HC0_2.out); rintro e w20 ⟨rfl, hb⟩; refine ⟨_, rfl, ?_⟩; replace BK282 := bl_ BK282 hb; replace BK283 := bl_ BK283 hb; replace BK284 := bl_ BK284 hb; replace HB := Aside0.mk (below_step (by repeat (with_reducible first | exact HB.out | apply pw_below_drewN | apply below_drew1 | refine below_set ?_ (Aside0.out (by assumption)))) hb); (try clear hb); (try clear hb2); (try clear hk); (try clear hi); have hnb21 := NB283_284.out; have hnc21 := NB284_283.out; have hcz22_0 : w20.cell? ⟨gb283, 0, none⟩ = some (.int .i64 a1_0) := (blk_cell BK283.out 0).trans rfl; have hcz22_1 : w20.cell? ⟨gb283, 1, none⟩ = some (.int .i64 a1_1) := (blk_cell BK283.out 1).trans rfl; have hcz22_2 : w20.cell? ⟨gb283, 2, none⟩ = some (.int .i64 a1_2) := (blk_cell BK283.out 2).trans rfl; have hcz22_3 : w20.cell? ⟨gb283, 3, none⟩ = some (.int .i64 a1_3) := (blk_cell BK283.out 3).trans rfl; have hcz22_4 : w20.cell? ⟨gb283, 4, none⟩ = some (.int .i64 a1_4) := (blk_cell BK283.out 4).trans rfl; have hcz22_5 : w20.cell? ⟨gb283, 5, none⟩ = some (.int .i64 a1_5) := (blk_cell BK283.out 5).trans rfl; have hfz22_0 := blk_frozen BK283.out 0; have hfz22_1 := blk_frozen BK283.out 1; have hfz22_2 := blk_frozen BK283.out 2; have hfz22_3 := blk_frozen BK283.out 3; have hfz22_4 := blk_frozen BK283.out 4; have hfz22_5 := blk_frozen BK283.out 5) | (go_at_call 50; (with_reducible refine (alarm_Is.calls a1_0 a1_1 a1_2 a1_3 a1_4 a1_5 true _ A5.out).mono ?_); rintro e w23 ⟨rfl, hb⟩; replace BK282 := bl_ BK282 hb; replace BK283 := bl_ BK283 hb; replace BK284 := bl_ BK284 hb; replace HB := Aside0.mk (below_step (by repeat (with_reducible first | exact HB.out | apply pw_below_drewN | apply below_drew1 | refine below_set ?_ (Aside0.out (by assumption)))) hb); (try clear hb); (try clear hb2); (try clear hk); (try clear hi); have hcz24_0 : w23.cell? ⟨gb283, 0, none⟩ = some (.int .i64 a1_0) := (blk_cell BK283.out 0).trans rfl; have hcz24_1 : w23.cell? ⟨gb283, 1, none⟩ = some (.int .i64 a1_1) := (blk_cell BK283.out 1).trans rfl; have hcz24_2 : w23.cell? ⟨gb283, 2, none⟩ = some (.int .i64 a1_2) := (blk_cell BK283.out 2).trans rfl; have hcz24_3 : w23.cell? ⟨gb283, 3, none⟩ = some (.int .i64 a1_3) := (blk_cell BK283.out 3).trans rfl; have hcz24_4 : w23.cell? ⟨gb283, 4, none⟩ = some (.int .i64 a1_4) := (blk_cell BK283.out 4).trans rfl; have hcz24_5 : w23.cell? ⟨gb283, 5, none⟩ = some (.int .i64 a1_5) := (blk_cell BK283.out 5).trans rfl; have hfz24_0 := blk_frozen BK283.out 0; have hfz24_1 := blk_frozen BK283.out 1; have hfz24_2 := blk_frozen BK283.out 2; have hfz24_3 := blk_frozen BK283.out 3; have hfz24_4 := blk_frozen BK283.out 4; have hfz24_5 := blk_frozen BK283.out 5; have hcz25_0 : w23.cell? ⟨gb282, 0, none⟩ = some (.int .i64 a0_0) := (blk_cell BK282.out 0).trans rfl; have hcz25_1 : w23.cell? ⟨gb282, 1, none⟩ = some (.int .i64 a0_1) := (blk_cell BK282.out 1).trans rfl; have hcz25_2 : w23.cell? ⟨gb282, 2, none⟩ = some (.slice A0_2 l0_2.length c0_2) := (blk_cell BK282.out 2).trans rfl; have hfz25_0 := blk_frozen BK282.out 0; have hfz25_1 := blk_frozen BK282.out 1; have hfz25_2 := blk_frozen BK282.out 2) | ((with_reducible refine gate_callee (f := 51) rfl ?_); refine goesL_ (some 26) rfl rfl Try.func51 (by kernel_rfl) rfl #[.agg #[.int .i64 a0_0, .int .i64 a0_1, .slice A0_2 l0_2.length c0_2]] rfl (by (try simp only [List.map_toArray, List.map_cons, List.map_nil]); first | done | rfl | (simp only [List.length_drop, List.length_take]; rfl)) ?_; (with_reducible refine (board_open.calls a0_0 a0_1 (fun k_ => k_ < w.heap.size) _ _ l0_2 t287 t290 t291 t292 _ ?side1 A8.out).mono ?_); (case side1 => exact Kd.V_mk HC0_2.out (Kd.F_below (Kd.C_F k28_heap HR0_2.out) (by repeat (with_reducible first | exact HB.out | apply pw_below_drewN | apply below_drew1 | refine below_set ?_ (Aside0.out (by assumption)))))); rintro e w26 ⟨v288, v293, rfl, ho0, ho1, hb⟩; refine ⟨_, rfl, ?_⟩; have HO289 := Aside0.mk (Kd.V_lower (Kd.V_mono (ok' := fun k_ => k_ ≠ gb282 ∧ k_ ≠ gb283 ∧ k_ ≠ gb284) ho0 (fun k_ hk_ => ⟨Or.elim hk_ (fun hs_ => fun e_ => Nat.not_le.2 hs_ (by rw [e_]; exact GW282.out)) (fun hn_ => (Kd.freshB (g := gb282) (o := .cells #[.int .i64 a0_0, .int .i64 a0_1, .slice A0_2 l0_2.length c0_2] 24 (0, 0)) BK282.out k_ hn_)), Or.elim hk_ (fun hs_ => fun e_ => Nat.not_le.2 hs_ (by rw [e_]; exact GW283.out)) (fun hn_ => (Kd.freshB (g := gb283) (o := .cells #[.int .i64 a1_0, .int .i64 a1_1, .int .i64 a1_2, .int .i64 a1_3, .int .i64 a1_4, .int .i64 a1_5] 28 (0, 0)) BK283.out k_ hn_)), Or.elim hk_ (fun hs_ => fun e_ => Nat.not_le.2 hs_ (by rw [e_]; exact GW284.out)) (fun hn_ => (Kd.freshB (g := gb284) (o := .cells #[.int .i64 0, .int .i64 0, .slice none 0 0] 24 (0, 0)) BK284.out k_ hn_))⟩)) (below_size (by repeat (with_reducible first | exact HB.out | apply pw_below_drewN | apply below_drew1 | refine below_set ?_ (Aside0.out (by assumption)))))); have HO294 := Aside0.mk (Kd.V_lower (Kd.V_mono (ok' := fun k_ => k_ ≠ gb282 ∧ k_ ≠ gb283 ∧ k_ ≠ gb284) ho1 (fun k_ hk_ => ⟨Or.elim hk_ (fun hs_ => fun e_ => Nat.not_le.2 hs_ (by rw [e_]; exact GW282.out)) (fun hn_ => (Kd.freshB (g := gb282) (o := .cells #[.int .i64 a0_0, .int .i64 a0_1, .slice A0_2 l0_2.length c0_2] 24 (0, 0)) BK282.out k_ hn_)), Or.elim hk_ (fun hs_ => fun e_ => Nat.not_le.2 hs_ (by rw [e_]; exact GW283.out)) (fun hn_ => (Kd.freshB (g := gb283) (o := .cells #[.int .i64 a1_0, .int .i64 a1_1, .int .i64 a1_2, .int .i64 a1_3, .int .i64 a1_4, .int .i64 a1_5] 28 (0, 0)) BK283.out k_ hn_)), Or.elim hk_ (fun hs_ => fun e_ => Nat.not_le.2 hs_ (by rw [e_]; exact GW284.out)) (fun hn_ => (Kd.freshB (g := gb284) (o := .cells #[.int .i64 0, .int .i64 0, .slice none 0 0] 24 (0, 0)) BK284.out k_ hn_))⟩)) (below_size (by repeat (with_reducible first | exact HB.out | apply pw_below_drewN | apply below_drew1 | refine below_set ?_ (Aside0.out (by assumption)))))); replace BK282 := bl_ BK282 hb; replace BK283 := bl_ BK283 hb; replace BK284 := bl_ BK284 hb; replace HB := Aside0.mk (below_step (by repeat (with_reducible first | exact HB.out | apply pw_below_drewN | apply below_drew1 | refine below_set ?_ (Aside0.out (by assumption)))) hb); (try clear hb); (try clear hb2); (try clear hk); (try clear hi); (try clear ho0); (try clear ho1)) | ((with_reducible refine gate_dst (N := 6) rfl ?_); refine box_event ?hg (N := 6) ?hd (cs := #[.slice none 0 0, .int .i64 0, .int .i64 0, .slice none 0 0]) (t := 72) ?hr ?_; (case hd => rfl); (case hg => rfl); (case hr => first | (go_simp; done) | (go_simp; rfl)); intro gb295 hg w27 hbox hb; replace HO289 := Aside0.mk (Kd.V_below (Kd.V_elderB (HO289.out) gb295 (Nat.le_of_eq hg.symm)) hb); replace HO294 := Aside0.mk (Kd.V_below (Kd.V_elderB (HO294.out) gb295 (Nat.le_of_eq hg.symm)) hb); have BK295 := Aside0.mk (hbox); have GW295 := Aside0.mk ((by rw [hg]; exact (below_size (by repeat (with_reducible first | exact HB.out | apply pw_below_drewN | apply below_drew1 | refine below_set ?_ (Aside0.out (by assumption))))) : w.heap.size ≤ gb295)); have GE295 := Aside0.mk ((by rw [hg]; exact (below_size (by repeat (with_reducible first | exact HB.out | apply pw_below_drewN | apply below_drew1 | refine below_set ?_ (Aside0.out (by assumption))))) : w.heap.size ≤ gb295)); replace HB := Aside0.mk (below_step (by repeat (with_reducible first | exact HB.out | apply pw_below_drewN | apply below_drew1 | refine below_set ?_ (Aside0.out (by assumption)))) hb); have NB282_295 := Aside0.mk ((by rw [hg]; exact Nat.ne_of_lt (blk_lt BK282.out) : gb282 ≠ gb295)); have NB295_282 := Aside0.mk ((by rw [hg]; exact Nat.ne_of_gt (blk_lt BK282.out) : gb295 ≠ gb282)); replace BK282 := bl_ BK282 hb; have NB283_295 := Aside0.mk ((by rw [hg]; exact Nat.ne_of_lt (blk_lt BK283.out) : gb283 ≠ gb295)); have NB295_283 := Aside0.mk ((by rw [hg]; exact Nat.ne_of_gt (blk_lt BK283.out) : gb295 ≠ gb283)); replace BK283 := bl_ BK283 hb; have NB284_295 := Aside0.mk ((by rw [hg]; exact Nat.ne_of_lt (blk_lt BK284.out) : gb284 ≠ gb295)); have NB295_284 := Aside0.mk ((by rw [hg]; exact Nat.ne_of_gt (blk_lt BK284.out) : gb295 ≠ gb284)); replace BK284 := bl_ BK284 hb; clear hb hbox hg; obtain ⟨Ao28, co28, eo28⟩ := Kd.V_slice HO289.out; subst eo28; have hnb29 := NB295_282.out; have hnc29 := NB282_295.out; have hnb30 := NB295_283.out; have hnc30 := NB283_295.out; have hnb31 := NB295_284.out; have hnc31 := NB284_295.out; have hcz32_0 : w27.cell? ⟨gb295, 0, none⟩ = some (.slice none 0 0) := (blk_cell BK295.out 0).trans rfl; have hcz32_1 : w27.cell? ⟨gb295, 1, none⟩ = some (.int .i64 0) := (blk_cell BK295.out 1).trans rfl; have hcz32_2 : w27.cell? ⟨gb295, 2, none⟩ = some (.int .i64 0) := (blk_cell BK295.out 2).trans rfl; have hcz32_3 : w27.cell? ⟨gb295, 3, none⟩ = some (.slice none 0 0) := (blk_cell BK295.out 3).trans rfl; have hfz32_0 := blk_frozen BK295.out 0; have hfz32_1 := blk_frozen BK295.out 1; have hfz32_2 := blk_frozen BK295.out 2; have hfz32_3 := blk_frozen BK295.out 3; obtain ⟨Ao33, co33, eo33⟩ := Kd.V_slice HO294.out; subst eo33; have hcz34_0 : w27.cell? ⟨gb283, 0, none⟩ = some (.int .i64 a1_0) := (blk_cell BK283.out 0).trans rfl; have hcz34_1 : w27.cell? ⟨gb283, 1, none⟩ = some (.int .i64 a1_1) := (blk_cell BK283.out 1).trans rfl; have hcz34_2 : w27.cell? ⟨gb283, 2, none⟩ = some (.int .i64 a1_2) := (blk_cell BK283.out 2).trans rfl; have hcz34_3 : w27.cell? ⟨gb283, 3, none⟩ = some (.int .i64 a1_3) := (blk_cell BK283.out 3).trans rfl; have hcz34_4 : w27.cell? ⟨gb283, 4, none⟩ = some (.int .i64 a1_4) := (blk_cell BK283.out 4).trans rfl; have hcz34_5 : w27.cell? ⟨gb283, 5, none⟩ = some (.int .i64 a1_5) := (blk_cell BK283.out 5).trans rfl; have hfz34_0 := blk_frozen BK283.out 0; have hfz34_1 := blk_frozen BK283.out 1; have hfz34_2 := blk_frozen BK283.out 2; have hfz34_3 := blk_frozen BK283.out 3; have hfz34_4 := blk_frozen BK283.out 4; have hfz34_5 := blk_frozen BK283.out 5) | ((with_reducible refine gate_callee (f := 52) rfl ?_); refine goesL_ (some 32) rfl rfl Try.func52 (by kernel_rfl) rfl #[.slice Ao28 t287.length co28, .agg #[.int .i64 a1_0, .int .i64 a1_1]] rfl (by (try simp only [List.map_toArray, List.map_cons, List.map_nil]); first | done | rfl | (simp only [List.length_drop, List.length_take]; rfl)) ?_; (with_reducible refine (board_alarms_find.calls k _ _ t287 a1_0 a1_1 t296 false _ ?side1 ?side2 A9.out).mono ?_); (case side1 => refine (Kd.V_reads' (e := 28) (base := w.heap.size) (ok := fun k_ => ((k_ ≠ gb282 ∧ (k_ ≠ gb283 ∧ k_ ≠ gb284)) ∧ k_ ≠ gb295)) (n := t287.length) (c := co28) ?_).2.2; exact (by (with_reducible repeat (first | apply Kd.V_alloc | apply Kd.V_drewN | apply Kd.V_drew)); exact (Kd.V_mono (Kd.V_far (p := ⟨gb295, 3, none⟩) (Kd.V_far (p := ⟨gb295, 2, none⟩) (Kd.V_far (p := ⟨gb295, 1, none⟩) (Kd.V_far (p := ⟨gb295, 0, none⟩) (Kd.V_mono HO289.out (fun k_ hk => (⟨hk, hk.2⟩ : _ ∧ k_ ≠ gb295))) (fun _ hk => hk.2) (.slice Ao28 t287.length co28)) (fun _ hk => hk.2) (.int .i64 t290)) (fun _ hk => hk.2) (.int .i64 t291)) (fun _ hk => hk.2) (.slice Ao33 t292.length co33)) (fun _ h_ => h_.1)))); (case side2 => exact (Kd.V_reads' HO289.out).2.1); rintro e w35 ⟨rfl, hb⟩; refine ⟨_, rfl, ?_⟩; replace HO289 := Aside0.mk (Kd.V_below (by (with_reducible repeat (first | apply Kd.V_alloc | apply Kd.V_drewN | apply Kd.V_drew)); exact (Kd.V_mono (Kd.V_far (p := ⟨gb295, 3, none⟩) (Kd.V_far (p := ⟨gb295, 2, none⟩) (Kd.V_far (p := ⟨gb295, 1, none⟩) (Kd.V_far (p := ⟨gb295, 0, none⟩) (Kd.V_mono HO289.out (fun k_ hk => (⟨hk, hk.2⟩ : _ ∧ k_ ≠ gb295))) (fun _ hk => hk.2) (.slice Ao28 t287.length co28)) (fun _ hk => hk.2) (.int .i64 t290)) (fun _ hk => hk.2) (.int .i64 t291)) (fun _ hk => hk.2) (.slice Ao33 t292.length co33)) (fun _ h_ => h_.1))) hb); replace HO294 := Aside0.mk (Kd.V_below (by (with_reducible repeat (first | apply Kd.V_alloc | apply Kd.V_drewN | apply Kd.V_drew)); exact (Kd.V_mono (Kd.V_far (p := ⟨gb295, 3, none⟩) (Kd.V_far (p := ⟨gb295, 2, none⟩) (Kd.V_far (p := ⟨gb295, 1, none⟩) (Kd.V_far (p := ⟨gb295, 0, none⟩) (Kd.V_mono HO294.out (fun k_ hk => (⟨hk, hk.2⟩ : _ ∧ k_ ≠ gb295))) (fun _ hk => hk.2) (.slice Ao28 t287.length co28)) (fun _ hk => hk.2) (.int .i64 t290)) (fun _ hk => hk.2) (.int .i64 t291)) (fun _ hk => hk.2) (.slice Ao33 t292.length co33)) (fun _ h_ => h_.1))) hb); replace BK282 := Aside0.mk (blk_below (g := gb282) (o := .cells #[.int .i64 a0_0, .int .i64 a0_1, .slice A0_2 l0_2.length c0_2] 24 (0, 0)) (by refine blk_far ?_ NB282_295.out _; refine blk_far ?_ NB282_295.out _; refine blk_far ?_ NB282_295.out _; refine blk_far ?_ NB282_295.out _; exact BK282.out) hb); replace BK283 := Aside0.mk (blk_below (g := gb283) (o := .cells #[.int .i64 a1_0, .int .i64 a1_1, .int .i64 a1_2, .int .i64 a1_3, .int .i64 a1_4, .int .i64 a1_5] 28 (0, 0)) (by refine blk_far ?_ NB283_295.out _; refine blk_far ?_ NB283_295.out _; refine blk_far ?_ NB283_295.out _; refine blk_far ?_ NB283_295.out _; exact BK283.out) hb); replace BK284 := Aside0.mk (blk_below (g := gb284) (o := .cells #[.int .i64 0, .int .i64 0, .slice none 0 0] 24 (0, 0)) (by refine blk_far ?_ NB284_295.out _; refine blk_far ?_ NB284_295.out _; refine blk_far ?_ NB284_295.out _; refine blk_far ?_ NB284_295.out _; exact BK284.out) hb); replace BK295 := Aside0.mk (blk_below (g := gb295) (o := .cells #[.slice Ao28 t287.length co28, .int .i64 t290, .int .i64 t291, .slice Ao33 t292.length co33] 72 (0, 0)) (by refine blk_put (cs := #[.slice Ao28 t287.length co28, .int .i64 t290, .int .i64 t291, .slice none 0 0]) ?_ 3 _ rfl; refine blk_put (cs := #[.slice Ao28 t287.length co28, .int .i64 t290, .int .i64 0, .slice none 0 0]) ?_ 2 _ rfl; refine blk_put (cs := #[.slice Ao28 t287.length co28, .int .i64 0, .int .i64 0, .slice none 0 0]) ?_ 1 _ rfl; refine blk_put (cs := #[.slice none 0 0, .int .i64 0, .int .i64 0, .slice none 0 0]) ?_ 0 _ rfl; exact BK295.out) hb); replace HB := Aside0.mk (below_step (by repeat (with_reducible first | exact HB.out | apply pw_below_drewN | apply below_drew1 | refine below_set ?_ (Aside0.out (by assumption)))) hb); (try clear hb); (try clear hb2); (try clear hk); (try clear hi); have hcz36_0 : w35.cell? ⟨gb282, 0, none⟩ = some (.int .i64 a0_0) := (blk_cell BK282.out 0).trans rfl; have hcz36_1 : w35.cell? ⟨gb282, 1, none⟩ = some (.int .i64 a0_1) := (blk_cell BK282.out 1).trans rfl; have hcz36_2 : w35.cell? ⟨gb282, 2, none⟩ = some (.slice A0_2 l0_2.length c0_2) := (blk_cell BK282.out 2).trans rfl; have hfz36_0 := blk_frozen BK282.out 0; have hfz36_1 := blk_frozen BK282.out 1; have hfz36_2 := blk_frozen BK282.out 2))
      replace HO289 := Aside0.mk (Kd.V_drew HO289.out)
      replace HO294 := Aside0.mk (Kd.V_drew HO294.out)
      replace BK282 := Aside0.mk (blk_drew BK282.out)
      replace BK283 := Aside0.mk (blk_drew BK283.out)
      replace BK284 := Aside0.mk (blk_drew BK284.out)
      replace BK295 := Aside0.mk (blk_drew BK295.out)
      replace HB := Aside0.mk (below_drew1 HB.out)
      refine start_ (n := 10) (S := fun w' => w'.cell? ⟨gb295, 0, none⟩ = some (.slice Ao28 t287.length co28) ∧ w'.cell? ⟨gb295, 1, none⟩ = some (.int .i64 t290) ∧ w'.cell? ⟨gb295, 2, none⟩ = some (.int .i64 t291) ∧ w'.cell? ⟨gb295, 3, none⟩ = some (.slice Ao33 t292.length co33) ∧ w'.cell? ⟨gb283, 0, none⟩ = some (.int .i64 a1_0) ∧ w'.cell? ⟨gb283, 1, none⟩ = some (.int .i64 a1_1) ∧ w'.cell? ⟨gb283, 2, none⟩ = some (.int .i64 a1_2) ∧ w'.cell? ⟨gb283, 3, none⟩ = some (.int .i64 a1_3) ∧ w'.cell? ⟨gb283, 4, none⟩ = some (.int .i64 a1_4) ∧ w'.cell? ⟨gb283, 5, none⟩ = some (.int .i64 a1_5)) (ds := []) #[false, false, false, false, false, false, false, false, false, false] (by kernel_rfl) rfl rfl ⟨(blk_cell BK295.out 0).trans rfl, (blk_cell BK295.out 1).trans rfl, (blk_cell BK295.out 2).trans rfl, (blk_cell BK295.out 3).trans rfl, (blk_cell BK283.out 0).trans rfl, (blk_cell BK283.out 1).trans rfl, (blk_cell BK283.out 2).trans rfl, (blk_cell BK283.out 3).trans rfl, (blk_cell BK283.out 4).trans rfl, (blk_cell BK283.out 5).trans rfl⟩ (fun hHeld => ?_); refine with_tabW board_Put.tab9 board_Put.bits9 (fun HT_ HW_ => ?_)
      generalize w35.drew = w37 at HO289 HO294 BK282 BK283 BK284 BK295 HB hHeld ⊢
      have Q_ := Qs.mk (n := 10) [(0, 1, 54, 2), (0, 3, 56, 10), (2, 0, 53, 11), (2, 2, 55, 15), (2, 4, 57, 31)]
      iterate 5 (first | (obtain ⟨q_, Q_⟩ := Qs.p Q_; refine pureQ_ q_ (v := ?_) (a' := ?_) rfl rfl (any_of HT_.out (by kernel_rfl)) (fun _ _ _ h => h) (Or.inl ⟨by rfl, ?_⟩) ?_ ?_; rotate_left; (intro w'; go_simp; with_reducible rfl); rotate_left; (simp only [Act.put, List.setIfInBounds_toArray, List.set_cons_zero, List.set_cons_succ, i64_w, i32_w]; rfl)) | (obtain ⟨q_, Q_⟩ := Qs.t Q_; refine takeQ_ q_ (v := ?_) (a' := ?_) rfl rfl (take_ofW HT_.out HW_.out (by kernel_rfl)) (fun _ _ _ h => h) (Or.inl ⟨by rfl, ?_⟩) hHeld ?_ ?_; rotate_left; (rintro w' ⟨s0, s1, s2, s3, s4, s5, s6, s7, s8, s9⟩; go_simp; with_reducible rfl); rotate_left; (simp only [Act.put, List.setIfInBounds_toArray, List.set_cons_zero, List.set_cons_succ, i64_w, i32_w]; rfl)))
      clear Q_
      refine one_ (i := 5) (N := some 58) (dn_ 6 10) rfl rfl (one_of HT_.out (by kernel_rfl)) (by decide) (fun K hK => ?_)
      refine Kd.R_lit_step k28 _ 28 ?hg (N := 58) ?hd (xs := ([(⟨(⟨a1_0, a1_1⟩ : S26), a1_2, a1_3, a1_4, a1_5⟩ : S28)] : List (S28))) (inner := [.int .i64 a1_0, .int .i64 a1_1, .int .i64 a1_2, .int .i64 a1_3, .int .i64 a1_4, .int .i64 a1_5]) (ok := fun _ => True) (okp := fun _ => True) ?hr ?hp (fun _ hk => hk) trivial (Below.refl _ _) (Nat.le_refl _) (by simp) ?_; (case hd => rfl); (case hg => rfl); (case hr => first | (go_simp; done) | (go_simp; rfl)); (case hp => exact (Reps.c6 (show Kd.M k28 _ _ _ (⟨(⟨a1_0, a1_1⟩ : S26), a1_2, a1_3, a1_4, a1_5⟩ : S28) [.int .i64 a1_0, .int .i64 a1_1, .int .i64 a1_2, .int .i64 a1_3, .int .i64 a1_4, .int .i64 a1_5] from (k28_mkM _ _ _ (⟨(⟨a1_0, a1_1⟩ : S26), a1_2, a1_3, a1_4, a1_5⟩ : S28) )) (Reps.none _ _)))
      intro v299 w38 ho39 hb hg_ hnew_
      clear hg_ hnew_
      (first | rw [← Ny298.out] at ho39 | (simp only [Int.reduceToNat] at ho39; rw [← Ny298.out] at ho39))
      replace HO289 := Aside0.mk (Kd.V_elder' (HO289.out) (Kd.R_base ho39) hb)
      replace HO294 := Aside0.mk (Kd.V_elder' (HO294.out) (Kd.R_base ho39) hb)
      have HO300 := Aside0.mk (Kd.R_lower (Kd.R_newB ho39 (g := gb283) (o := .cells #[.int .i64 a1_0, .int .i64 a1_1, .int .i64 a1_2, .int .i64 a1_3, .int .i64 a1_4, .int .i64 a1_5] 28 (0, 0)) BK283.out) (below_size (by repeat (with_reducible first | exact HB.out | apply pw_below_drewN | apply below_drew1 | refine below_set ?_ (Aside0.out (by assumption))))))
      replace BK282 := bl_ BK282 hb
      replace BK283 := bl_ BK283 hb
      replace BK284 := bl_ BK284 hb
      replace BK295 := bl_ BK295 hb
      replace HB := Aside0.mk (below_step (by repeat (with_reducible first | exact HB.out | apply pw_below_drewN | apply below_drew1 | refine below_set ?_ (Aside0.out (by assumption)))) hb)
      clear hb ho39
      obtain ⟨Ao40, co40, eo40⟩ := Kd.R_slice HO300.out
      (first | subst eo40 | (injection eo40 with f1_ f2_ f3_; have f4_ := f1_.symm; have f5_ := f3_.symm; clear f1_ f2_ f3_; subst f4_; subst f5_))
      refine hK.out _ _ ⟨(blk_cell BK295.out 0).trans rfl, (blk_cell BK295.out 1).trans rfl, (blk_cell BK295.out 2).trans rfl, (blk_cell BK295.out 3).trans rfl, (blk_cell BK283.out 0).trans rfl, (blk_cell BK283.out 1).trans rfl, (blk_cell BK283.out 2).trans rfl, (blk_cell BK283.out 3).trans rfl, (blk_cell BK283.out 4).trans rfl, (blk_cell BK283.out 5).trans rfl⟩ (fun hHeld => ?_)
      clear hK K
      refine norm_ (a' := ?_) ?_ ?_
      rotate_left
      ·show Act.put _ (some 58) _ = _
       simp only [Act.put, List.setIfInBounds_toArray, List.set_cons_zero, List.set_cons_succ, i64_w, i32_w]
       rfl
      refine one_ (i := 6) (N := some 59) (dn_ 7 10) rfl rfl (one_of HT_.out (by kernel_rfl)) (by decide) (fun K hK => ?_)
      refine goes_ Try.func54 (by kernel_rfl) rfl #[.slice Ao28 t287.length co28, .int .i64 t296, .int .i64 0, .slice Ao40 y298.length co40] (by rfl) rfl rfl (by (try simp only [List.map_toArray, List.map_cons, List.map_nil]); first | done | rfl | (simp only [List.length_drop, List.length_take]; rfl)) ?_
      with_reducible refine (board_alarms_with.calls k (fun k_ => (((k_ ≠ gb282 ∧ (k_ ≠ gb283 ∧ k_ ≠ gb284)) ∧ k_ ≠ gb295) ∧ some k_ ≠ (.slice Ao40 y298.length co40 : Value).ownBlock)) _ _ t287 t296 0 (fun k_ => some k_ = (.slice Ao40 y298.length co40 : Value).ownBlock) _ _ y298 t301 _ ?side1 ?side2 A12.out).mono ?_
      (case side1 => exact HO289.out)
      (case side2 => exact Kd.R_V (Kd.R_tight rfl (Kd.R_types (Kd.R_types (Kd.R_types (HO300.out) BK282.out (by decide)) BK284.out (by decide)) BK295.out (by decide))))
      rintro e w41 ⟨v302, rfl, ho0, hb⟩
      refine ⟨_, rfl, ?_⟩
      replace HO289 := Aside0.mk (Kd.V_elder' (HO289.out) (Kd.R_base ho0) hb)
      replace HO294 := Aside0.mk (Kd.V_elder' (HO294.out) (Kd.R_base ho0) hb)
      have HO303 := Aside0.mk (Kd.R_lower (Kd.R_newB (Kd.R_new' (Kd.R_mono (ok' := fun k_ => True) ho0 (fun _ hk_ => trivial)) (Kd.R_lt (HO300.out))) (g := gb283) (o := .cells #[.int .i64 a1_0, .int .i64 a1_1, .int .i64 a1_2, .int .i64 a1_3, .int .i64 a1_4, .int .i64 a1_5] 28 (0, 0)) BK283.out) (below_size (by repeat (with_reducible first | exact HB.out | apply pw_below_drewN | apply below_drew1 | refine below_set ?_ (Aside0.out (by assumption))))))
      replace HO300 := Aside0.mk (Kd.R_elder' (HO300.out) (Kd.R_base ho0) hb)
      replace BK282 := bl_ BK282 hb
      replace BK283 := bl_ BK283 hb
      replace BK284 := bl_ BK284 hb
      replace BK295 := bl_ BK295 hb
      replace HB := Aside0.mk (below_step (by repeat (with_reducible first | exact HB.out | apply pw_below_drewN | apply below_drew1 | refine below_set ?_ (Aside0.out (by assumption)))) hb)
      (try clear hb)
      (try clear hb2)
      (try clear hk)
      (try clear hi)
      (try clear ho0)
      obtain ⟨Ao42, co42, eo42⟩ := Kd.R_slice HO303.out
      (first | subst eo42 | (injection eo42 with f1_ f2_ f3_; have f4_ := f1_.symm; have f5_ := f3_.symm; clear f1_ f2_ f3_; subst f4_; subst f5_))
      refine hK.out _ _ ⟨(blk_cell BK295.out 0).trans rfl, (blk_cell BK295.out 1).trans rfl, (blk_cell BK295.out 2).trans rfl, (blk_cell BK295.out 3).trans rfl, (blk_cell BK283.out 0).trans rfl, (blk_cell BK283.out 1).trans rfl, (blk_cell BK283.out 2).trans rfl, (blk_cell BK283.out 3).trans rfl, (blk_cell BK283.out 4).trans rfl, (blk_cell BK283.out 5).trans rfl⟩ (fun hHeld => ?_)
      clear hK K
      refine norm_ (a' := ?_) ?_ ?_
      rotate_left
      ·show Act.put _ (some 59) _ = _
       simp only [Act.put, List.setIfInBounds_toArray, List.set_cons_zero, List.set_cons_succ, i64_w, i32_w]
       rfl
      refine one_ (i := 7) (N := some 60) (dn_ 8 10) rfl rfl (one_of HT_.out (by kernel_rfl)) (by decide) (fun K hK => ?_)
      refine goes_ Try.func53 (by kernel_rfl) rfl #[.agg #[.slice Ao28 t287.length co28, .int .i64 t290, .int .i64 t291, .slice Ao33 t292.length co33], .slice Ao42 t301.length co42] (by rfl) rfl rfl (by (try simp only [List.map_toArray, List.map_cons, List.map_nil]); first | done | rfl | (simp only [List.length_drop, List.length_take]; rfl)) ?_
      with_reducible refine (board_sheet_now.calls _ _ t287 t290 t291 _ _ t292 (fun k_ => some k_ = (.slice Ao42 t301.length co42 : Value).ownBlock) (.slice Ao42 t301.length co42) t301 t304 t305 t306 w _ ?side1 ?side2 ?side3 ?side4 ?side5 ?side6 A13.out).mono ?_
      (case side1 => repeat (first | (with_reducible first | exact HB.out | apply below_alloc | apply pw_below_drewN | apply below_drew1 | refine below_set ?_ GE282.out | refine below_set ?_ GE283.out | refine below_set ?_ GE284.out | refine below_set ?_ GE295.out) | exact HB.out))
      (case side2 => exact Kd.C_kept_ownV (HO289.out) (fun k_ hk_ hs_ => (hk_.2) hs_))
      (case side3 => exact (Kd.V_reads' HO289.out).2.1)
      (case side4 => exact Kd.C_kept_ownV (HO294.out) (fun k_ hk_ hs_ => (hk_.2) hs_))
      (case side5 => exact (Kd.V_reads' HO294.out).2.1)
      (case side6 => exact Kd.R_tight rfl HO303.out)
      rintro e w43 ⟨v307, rfl, ho0, hb, hkp⟩
      refine ⟨_, rfl, ?_⟩
      replace BK282 := Aside0.mk (blk_kept BK282.out hkp (fun hs_ => (fun e_ => (Kd.R_ne HO303.out BK282.out (by decide)) e_) hs_))
      replace BK284 := Aside0.mk (blk_kept BK284.out hkp (fun hs_ => (fun e_ => (Kd.R_ne HO303.out BK284.out (by decide)) e_) hs_))
      replace HO289 := Aside0.mk (Kd.V_mono (ok' := fun k_ => some k_ ≠ (.slice Ao40 y298.length co40 : Value).ownBlock ∧ k_ ≠ gb282 ∧ k_ ≠ gb283 ∧ k_ ≠ gb284 ∧ k_ ≠ gb295 ∧ some k_ ≠ (v307 : Value).ownBlock) (Kd.V_keptB (HO289.out) hkp (fun k_ hk_ hs_ => (hk_.2) hs_)) (fun k_ hk_ => ⟨hk_.1.1.2, hk_.1.1.1.1.1, hk_.1.1.1.1.2.1, hk_.1.1.1.1.2.2, hk_.1.1.1.2, fun e_ => Or.elim (ho0.1 k_ e_.symm) (fun hs_ => hk_.2.1 hs_) (fun hn_ => Nat.not_le.2 hk_.2.2 hn_)⟩))
      replace HO294 := Aside0.mk (Kd.V_mono (ok' := fun k_ => some k_ ≠ (.slice Ao40 y298.length co40 : Value).ownBlock ∧ k_ ≠ gb282 ∧ k_ ≠ gb283 ∧ k_ ≠ gb284 ∧ k_ ≠ gb295 ∧ some k_ ≠ (v307 : Value).ownBlock) (Kd.V_keptB (HO294.out) hkp (fun k_ hk_ hs_ => (hk_.2) hs_)) (fun k_ hk_ => ⟨hk_.1.1.2, hk_.1.1.1.1.1, hk_.1.1.1.1.2.1, hk_.1.1.1.1.2.2, hk_.1.1.1.2, fun e_ => Or.elim (ho0.1 k_ e_.symm) (fun hs_ => hk_.2.1 hs_) (fun hn_ => Nat.not_le.2 hk_.2.2 hn_)⟩))
      replace BK295 := Aside0.mk (blk_kept BK295.out hkp (fun hs_ => (fun e_ => (Kd.R_ne HO303.out BK295.out (by decide)) e_) hs_))
      have HO308 := Aside0.mk (Kd.R_mono (ok' := fun k_ => some k_ ≠ (.slice Ao40 y298.length co40 : Value).ownBlock ∧ k_ ≠ gb283) ho0 (fun k_ hk_ => ⟨Or.elim hk_ (fun hs_ => fun e_ => (((HO300.out).1 k_ e_.symm).2) hs_) (fun hn_ => (Kd.fresh' (Kd.R_lt (HO300.out)) k_ hn_)), Or.elim hk_ (fun hs_ => fun e_ => (Kd.R_away HO303.out (fun _ hk => hk.2)) (by rw [← e_]; exact hs_)) (fun hn_ => (Kd.freshB (g := gb283) (o := .cells #[.int .i64 a1_0, .int .i64 a1_1, .int .i64 a1_2, .int .i64 a1_3, .int .i64 a1_4, .int .i64 a1_5] 28 (0, 0)) BK283.out k_ hn_))⟩))
      replace BK283 := Aside0.mk (blk_kept BK283.out hkp (fun hs_ => (fun e_ => (Kd.R_away HO303.out (fun _ hk => hk.2)) e_) hs_))
      replace HO300 := Aside0.mk (Kd.R_mono (ok' := fun k_ => k_ ≠ gb283 ∧ some k_ ≠ (v307 : Value).ownBlock) (Kd.R_keptB (HO300.out) hkp (fun k_ hk_ hs_ => (hk_.2) hs_)) (fun k_ hk_ => ⟨hk_.1.1.2, fun e_ => Or.elim (ho0.1 k_ e_.symm) (fun hs_ => hk_.2.1 hs_) (fun hn_ => Nat.not_le.2 hk_.2.2 hn_)⟩))
      replace HB := Aside0.mk (hb)
      clear HO303
      (try clear hb)
      (try clear hkp)
      (try clear ho0)
      obtain ⟨Ao46, co46, eo46⟩ := Kd.R_slice HO308.out
      (first | subst eo46 | (injection eo46 with f1_ f2_ f3_; have f4_ := f1_.symm; have f5_ := f3_.symm; clear f1_ f2_ f3_; subst f4_; subst f5_))
      refine hK.out _ _ ⟨(blk_cell BK295.out 0).trans rfl, (blk_cell BK295.out 1).trans rfl, (blk_cell BK295.out 2).trans rfl, (blk_cell BK295.out 3).trans rfl, (blk_cell BK283.out 0).trans rfl, (blk_cell BK283.out 1).trans rfl, (blk_cell BK283.out 2).trans rfl, (blk_cell BK283.out 3).trans rfl, (blk_cell BK283.out 4).trans rfl, (blk_cell BK283.out 5).trans rfl⟩ (fun hHeld => ?_)
      clear hK K
      refine norm_ (a' := ?_) ?_ ?_
      rotate_left
      ·show Act.put _ (some 60) _ = _
       simp only [Act.put, List.setIfInBounds_toArray, List.set_cons_zero, List.set_cons_succ, i64_w, i32_w]
       rfl
      refine one_ (i := 8) (N := none) (dn_ 9 10) rfl rfl (one_of HT_.out (by kernel_rfl)) (by decide) (fun K hK => ?_)
      have hs44 : w43.cell? ⟨gb284, 0, none⟩ = some (.int .i64 0) := (blk_cell BK284.out 0).trans rfl
      have hfs44 := blk_frozen BK284.out 0
      have hns44_0 := NB282_284.out
      have hns44_1 := NB283_284.out
      have hns44_3 := NB295_284.out
      have hms44_0 := NB284_282.out
      have hms44_1 := NB284_283.out
      have hms44_3 := NB284_295.out
      have hs45 : w43.cell? ⟨gb284, 1, none⟩ = some (.int .i64 0) := (blk_cell BK284.out 1).trans rfl
      have hfs45 := blk_frozen BK284.out 1
      have hns45_0 := NB282_284.out
      have hns45_1 := NB283_284.out
      have hns45_3 := NB295_284.out
      have hms45_0 := NB284_282.out
      have hms45_1 := NB284_283.out
      have hms45_3 := NB284_295.out
      have hs47 : w43.cell? ⟨gb284, 2, none⟩ = some (.slice none 0 0) := (blk_cell BK284.out 2).trans rfl
      have hfs47 := blk_frozen BK284.out 2
      have hns47_0 := NB282_284.out
      have hns47_1 := NB283_284.out
      have hns47_3 := NB295_284.out
      have hms47_0 := NB284_282.out
      have hms47_1 := NB284_283.out
      have hms47_3 := NB284_295.out
      refine skip_ (w1 := ?_) (by rfl) rfl ?_ ?_
      rotate_left
      ·go_simp
       rfl
      refine hK.out _ _ ⟨((cell_far (p := ⟨gb284, _, none⟩) NB295_284.out _).trans (((cell_far (p := ⟨gb284, _, none⟩) NB295_284.out _).trans (((cell_far (p := ⟨gb284, _, none⟩) NB295_284.out _).trans (hHeld.1)))))), ((cell_far (p := ⟨gb284, _, none⟩) NB295_284.out _).trans (((cell_far (p := ⟨gb284, _, none⟩) NB295_284.out _).trans (((cell_far (p := ⟨gb284, _, none⟩) NB295_284.out _).trans (hHeld.2.1)))))), ((cell_far (p := ⟨gb284, _, none⟩) NB295_284.out _).trans (((cell_far (p := ⟨gb284, _, none⟩) NB295_284.out _).trans (((cell_far (p := ⟨gb284, _, none⟩) NB295_284.out _).trans (hHeld.2.2.1)))))), ((cell_far (p := ⟨gb284, _, none⟩) NB295_284.out _).trans (((cell_far (p := ⟨gb284, _, none⟩) NB295_284.out _).trans (((cell_far (p := ⟨gb284, _, none⟩) NB295_284.out _).trans (hHeld.2.2.2.1)))))), ((cell_far (p := ⟨gb284, _, none⟩) NB283_284.out _).trans (((cell_far (p := ⟨gb284, _, none⟩) NB283_284.out _).trans (((cell_far (p := ⟨gb284, _, none⟩) NB283_284.out _).trans (hHeld.2.2.2.2.1)))))), ((cell_far (p := ⟨gb284, _, none⟩) NB283_284.out _).trans (((cell_far (p := ⟨gb284, _, none⟩) NB283_284.out _).trans (((cell_far (p := ⟨gb284, _, none⟩) NB283_284.out _).trans (hHeld.2.2.2.2.2.1)))))), ((cell_far (p := ⟨gb284, _, none⟩) NB283_284.out _).trans (((cell_far (p := ⟨gb284, _, none⟩) NB283_284.out _).trans (((cell_far (p := ⟨gb284, _, none⟩) NB283_284.out _).trans (hHeld.2.2.2.2.2.2.1)))))), ((cell_far (p := ⟨gb284, _, none⟩) NB283_284.out _).trans (((cell_far (p := ⟨gb284, _, none⟩) NB283_284.out _).trans (((cell_far (p := ⟨gb284, _, none⟩) NB283_284.out _).trans (hHeld.2.2.2.2.2.2.2.1)))))), ((cell_far (p := ⟨gb284, _, none⟩) NB283_284.out _).trans (((cell_far (p := ⟨gb284, _, none⟩) NB283_284.out _).trans (((cell_far (p := ⟨gb284, _, none⟩) NB283_284.out _).trans (hHeld.2.2.2.2.2.2.2.2.1)))))), ((cell_far (p := ⟨gb284, _, none⟩) NB283_284.out _).trans (((cell_far (p := ⟨gb284, _, none⟩) NB283_284.out _).trans (((cell_far (p := ⟨gb284, _, none⟩) NB283_284.out _).trans (hHeld.2.2.2.2.2.2.2.2.2))))))⟩ (fun hHeld => ?_)
      clear hK K
      refine pure_ (i := 9) (N := some 5) (v := ?_) (a' := ?_) #[true, true, true, true, true, true, true, true, true, true] rfl rfl (any_of HT_.out (by kernel_rfl)) (fun _ _ _ h => h) (Or.inl ⟨by rfl, ?_⟩) ?_ ?_
      rotate_left
      ·intro w'
       go_simp
       with_reducible rfl
      rotate_left; (simp only [Act.put, List.setIfInBounds_toArray, List.set_cons_zero, List.set_cons_succ, i64_w, i32_w]; rfl)
      refine done_ (done_of HT_.out (by kernel_rfl)) ?_
      try go_wp2
      refine bodyPost_ret (results_ct rfl _ _ gb284 24 #[.int .i64 t304, .int .i64 t305, .slice Ao46 t306.length co46] (0, 0) _ rfl (by refine blk_put (cs := #[.int .i64 t304, .int .i64 t305, .slice none 0 0]) ?_ 2 _ rfl; refine blk_put (cs := #[.int .i64 t304, .int .i64 0, .slice none 0 0]) ?_ 1 _ rfl; refine blk_put (cs := #[.int .i64 0, .int .i64 0, .slice none 0 0]) ?_ 0 _ rfl; exact BK284.out) Try.underlying24 rfl (by kernel_rfl)) rfl ?_
      exact ⟨_, by first | rfl | (simp [errW_none, errW_some] <;> rfl) | (simp [*, errW_none, errW_some] <;> rfl), by (with_reducible repeat (first | apply Kd.R_alloc | apply Kd.R_drewN | apply Kd.R_drew)); exact Kd.R_mono (rf3 (Kd.R_types HO308.out BK284.out (by decide)) (fun _ hk => hk.2) (.int .i64 t304) (.int .i64 t305) (.slice Ao46 t306.length co46)) (fun _ hk => trivial), by repeat (with_reducible first | exact HB.out | apply pw_below_drewN | apply below_drew1 | refine below_set ?_ (Aside0.out (by assumption)))⟩
  ·replace c6 := Bool.eq_false_iff.mpr c6
   subst c6
   rw [if_neg (show ¬ (false = true) by decide)] at H; try dsimp only at H
   exact absurd H (by simp)
 ·replace c4 := Bool.eq_false_iff.mpr c4
  subst c4
  rw [if_neg (show ¬ (false = true) by decide)] at H; try dsimp only at H
  exact absurd H (by simp)

/-! ### due_Next: function 39 -/
theorem due_Next.first (k : Nat) (A0 : Option Addr) (c0 : Nat) (l0 : List S28) (y0 y1 y2 y3 y4 y5 : Int) (y6 : Bool) (w : World) (hr0 : Kd.C k28 w A0 l0.length l0) (hc0 : l0.length ≤ c0) (h : due_First.g k l0 = some (⟨⟨y0, y1⟩, y2, y3, y4, y5⟩, y6)) :
 Calls Try.prog 43 #[.slice A0 l0.length c0] w fun e w' => e = .returned (.tuple #[.agg #[.int .i64 y0, .int .i64 y1, .int .i64 y2, .int .i64 y3, .int .i64 y4, .int .i64 y5], .bool y6]) ∧ Below w.heap.size w w' := due_First.main k A0 c0 l0 ⟨⟨y0, y1⟩, y2, y3, y4, y5⟩ y6 w hr0 hc0 h
def due_Next.f (k : Nat) (a0_0 a0_1 : Int) (l0_2 : List S28) : Option (Int × Bool) := (due_First.g k l0_2).map (fun p => (p.1.f4, p.2))
theorem due_Next.mono : ∀ a0 a1 a2 k, LeO (due_Next.f k a0 a1 a2) (due_Next.f (k + 1) a0 a1 a2) := by
 intro a0 a1 a2 k r h
 obtain ⟨p, hp, he⟩ := Option.map_eq_some_iff.1 h
 exact Option.map_eq_some_iff.2 ⟨p, due_First.g_mono k a2 p hp, he⟩
set_option maxHeartbeats 4000000 in
set_option maxRecDepth 100000 in
theorem due_Next.calls (k : Nat) (a0_0 a0_1 : Int) (A0_2 : Option Addr) (c0_2 : Nat) (l0_2 : List S28) (r1 : Int) (r2 : Bool) (w : World) (hr0_2 : Kd.C k28 w A0_2 l0_2.length l0_2) (hc0_2 : l0_2.length ≤ c0_2) (h : due_Next.f k a0_0 a0_1 l0_2 = some (r1, r2)) :
 Calls Try.prog 39 #[.agg #[.int .i64 a0_0, .int .i64 a0_1, .slice A0_2 l0_2.length c0_2]] w fun e w' => e = .returned (.tuple #[.int .i64 r1, .bool r2]) ∧ Below w.heap.size w w' := by
 have hu0 := Try.underlying24
 have hu1 := Try.underlying28
 have hu2 := Try.underlying26
 have HR0 := Aside0.mk hr0_2
 have HC0 := Aside0.mk hc0_2
 obtain ⟨⟨⟨⟨y0, y1⟩, y2, y3, y4, y5⟩, y6⟩, E0, h2⟩ := Option.map_eq_some_iff.1 h
 obtain ⟨rfl, rfl⟩ : y5 = r1 ∧ y6 = r2 := by simpa only [Prod.mk.injEq] using h2
 replace E0 := Aside0.mk E0
 clear hr0_2 hc0_2 h h2
 have HT := Aside0.mk (T.Tell.init w)
 go_enter Try.func39, Try.ntmps39
 go_wp2_with (first | ((with_reducible refine gate_dst (N := 1) rfl ?_); refine box_event ?hg (N := 1) ?hd (cs := #[.int .i64 a0_0, .int .i64 a0_1, .slice A0_2 l0_2.length c0_2]) (t := 24) ?hr ?_; (case hd => rfl); (case hg => rfl); (case hr => first | (go_simp; done) | (go_simp; rfl)); intro g_b hg w_1 hbox hb; replace HT := Aside0.mk (HT.out.pushBe hbox hg hb); clear hb hbox hg; have hx0_b := (HT.out.bx 0 rfl 0).trans rfl; have hx1_b := (HT.out.bx 0 rfl 1).trans rfl; have hx2_b := (HT.out.bx 0 rfl 2).trans rfl; have hz_b := (HT.out.far 0 rfl (k := g_b) rfl).1) | ((with_reducible refine gate_dst (N := 9) rfl ?_); (try (refine gate_guard (by rfl) ?_; dsimp only)); refine goesL_ (some 9) rfl rfl Try.func43 (by kernel_rfl) rfl #[.slice A0_2 l0_2.length c0_2] rfl (by (try simp only [List.map_toArray, List.map_cons, List.map_nil]); first | done | rfl) ?_; (with_reducible refine (due_Next.first k A0_2 c0_2 l0_2 y0 y1 y2 y3 y4 y5 y6 _ ?s1 ?s2 E0.out).mono ?_); (case s1 => exact Kd.C_below HR0.out HT.out.below); (case s2 => exact HC0.out); rintro e_ w_9 ⟨rfl, hb⟩; refine ⟨_, rfl, ?_⟩; replace HT := Aside0.mk (HT.out.step hb); clear hb))
 repeat (go_quiet (fail))
 replace HT := Aside0.mk (HT.out.pushB #[.int .i64 y0, .int .i64 y1, .int .i64 y2, .int .i64 y3, .int .i64 y4, .int .i64 y5] 28)
 go_ret2
 exact ⟨rfl, HT.out.below⟩

/-! ### watchmanref09_Same: function 45 -/
def watchmanref09_Same.l0 : Nat → List (S65) → List (S65) → Int → Option (Bool)
 | 0, _, _, _ => none
 | k + 1, x0, x1, x5 => if x5 < (x0.length : Int) then (if 0 ≤ x5 then (if x5 < (x1.length : Int) then (if (!(((rd_T65 x0 x5).f0) == ((rd_T65 x1 x5).f0)) || ((!(((rd_T65 x0 x5).f1.f0) == ((rd_T65 x1 x5).f1.f0)) || (!(((rd_T65 x0 x5).f1.f1) == ((rd_T65 x1 x5).f1.f1)))) || (!(((rd_T65 x0 x5).f2) == ((rd_T65 x1 x5).f2))))) = true then (some false) else (watchmanref09_Same.l0 k x0 x1 (wrap64 (x5 + 1)))) else (none)) else (none)) else (some true)
def watchmanref09_Same.f (k : Nat) (l0 : List (S65)) (l1 : List (S65)) : Option (Bool) := if (l0.length : Int) = (l1.length : Int) then (watchmanref09_Same.l0 k l0 l1 0) else (some false)
theorem watchmanref09_Same.mono_l : ∀ k, (∀ y0 y1 y2, LeO (watchmanref09_Same.l0 k y0 y1 y2) (watchmanref09_Same.l0 (k + 1) y0 y1 y2))
 | 0 => fun _ _ _ r h => by simp [watchmanref09_Same.l0] at h
 | k + 1 => by
  have ih0 := watchmanref09_Same.mono_l k
  ·intro y0 y1 y2
   unfold watchmanref09_Same.l0
   repeat' first
   | (with_reducible exact ih0 _ _ _)
   | (with_reducible exact LeO.refl _)
   | (with_reducible exact LeO.none _)
   | (with_reducible refine LeO.ite ?_ ?_)
   | (with_reducible refine LeO.bind ?_ (fun _ => ?_))
   | exact ih0 _ _ _
   | exact LeO.none _
   | refine LeO.ite ?_ ?_
   | refine LeO.bind ?_ (fun _ => ?_)
theorem watchmanref09_Same.mono : ∀ a0 a1 k, LeO (watchmanref09_Same.f k a0 a1) (watchmanref09_Same.f (k + 1) a0 a1) := by
 intro a0 a1 k
 have ih0 := watchmanref09_Same.mono_l k
 unfold watchmanref09_Same.f
 repeat' first
  | (with_reducible exact ih0 _ _ _)
  | (with_reducible exact LeO.refl _)
  | (with_reducible exact LeO.none _)
  | (with_reducible refine LeO.ite ?_ ?_)
  | (with_reducible refine LeO.bind ?_ (fun _ => ?_))
  | exact ih0 _ _ _
  | exact LeO.none _
  | refine LeO.ite ?_ ?_
  | refine LeO.bind ?_ (fun _ => ?_)
set_option maxHeartbeats 8000000 in
set_option maxRecDepth 100000 in
theorem watchmanref09_Same.calls (k : Nat) (A0 : Option Addr) (c0 : Nat) (l0 : List (S65)) (A1 : Option Addr) (c1 : Nat) (l1 : List (S65)) (r : Bool) (w : World) (hr0 : Kd.C k65 w A0 l0.length l0) (hc0 : l0.length ≤ c0) (hr1 : Kd.C k65 w A1 l1.length l1) (hc1 : l1.length ≤ c1) (h : watchmanref09_Same.f k l0 l1 = some r) :
 Calls Try.prog 45 #[.slice A0 l0.length c0, .slice A1 l1.length c1] w fun e w' => e = .returned (.bool r) ∧ Drawn0 w w' := by
 have hu65 := Try.underlying65
 have HR0 := Aside0.mk hr0
 have HC0 := Aside0.mk hc0
 clear hr0 hc0
 have HR1 := Aside0.mk hr1
 have HC1 := Aside0.mk hc1
 clear hr1 hc1
 have H : (if (l0.length : Int) = (l1.length : Int) then (watchmanref09_Same.l0 k l0 l1 0) else (some false)) = some r := h
 clear h
 by_cases c3 : (l0.length : Int) = (l1.length : Int)
 ·rw [if_pos c3] at H
  have c3b0 : ((l0.length : Int) == (l1.length : Int)) = true := beq_iff_eq.mpr c3
  have c3b1 : ((l0.length : Int) != (l1.length : Int)) = false := bne_eq_false_iff_eq.mpr c3
  have c3b2 : (l0.length == l1.length) = true := by first | simpa using c3 | (simp at c3 ⊢; omega)
  clear c3
  have H' := Aside0.mk H
  clear H
  go_enter Try.func45, Try.ntmps45
  go_wp2
  repeat (go_quiet (fail); try go_wp2)
  go_loopg [5] k (fun kq v5 w' => ∃ (x5_1 : Int), v5 = .int .i64 x5_1 ∧ Aside0 (watchmanref09_Same.l0 kq l0 l1 x5_1 = some r) ∧ Aside0 (kq ≤ k) ∧ Drawn0 w w')
  case atStart => exact ⟨(0), (by first | rfl | (simp; done) | (simp [*]; done)), H', ⟨Nat.le_refl _⟩, by repeat (first | exact Drawn0.refl _ | apply Drawn0.step)⟩
  case round =>
   clear H'
   try clear c1; try clear p2; try clear c3; try clear c3b0; try clear c3b1; try clear c3b2
   obtain ⟨x5_1, rfl, HA, HK1, ⟨m1, rfl⟩⟩ := hrel
   cases gk with
   | zero => exact absurd HA.out (by simp [watchmanref09_Same.l0])
   | succ k1 =>
    have H := HA.out
    clear HA
    simp only [watchmanref09_Same.l0] at H
    by_cases c4 : x5_1 < (l0.length : Int)
    ·rw [if_pos c4] at H
     have c4b0 : decide (x5_1 < (l0.length : Int)) = true := decide_eq_true c4
     clear c4
     by_cases c5 : 0 ≤ x5_1
     ·rw [if_pos c5] at H
      have c5b0 : decide (0 ≤ x5_1) = true := decide_eq_true c5
      clear c5
      by_cases c6 : x5_1 < (l1.length : Int)
      ·rw [if_pos c6] at H
       have c6b0 : decide (x5_1 < (l1.length : Int)) = true := decide_eq_true c6
       clear c6
       by_cases c7 : (!(((rd_T65 l0 x5_1).f0) == ((rd_T65 l1 x5_1).f0)) || ((!(((rd_T65 l0 x5_1).f1.f0) == ((rd_T65 l1 x5_1).f1.f0)) || (!(((rd_T65 l0 x5_1).f1.f1) == ((rd_T65 l1 x5_1).f1.f1)))) || (!(((rd_T65 l0 x5_1).f2) == ((rd_T65 l1 x5_1).f2))))) = true
       ·rw [if_pos c7] at H
        have c7b0 : (!(((rd_T65 l0 x5_1).f0) == ((rd_T65 l1 x5_1).f0)) || ((!(((rd_T65 l0 x5_1).f1.f0) == ((rd_T65 l1 x5_1).f1.f0)) || (!(((rd_T65 l0 x5_1).f1.f1) == ((rd_T65 l1 x5_1).f1.f1)))) || (!(((rd_T65 l0 x5_1).f2) == ((rd_T65 l1 x5_1).f2))))) = true := c7
        clear c7
        obtain rfl := Option.some.inj H
        have p309 : 0 ≤ (x5_1 : Int) := of_decide_eq_true (by first | (with_reducible assumption) | assumption)
        have q309 : x5_1 < (l0.length : Int) := of_decide_eq_true (by first | (with_reducible assumption) | assumption)
        obtain ⟨ad309, e309, hx309_0, hx309_1, hx309_2, hx309_3⟩ := at_T65 HR0.out x5_1 p309 q309
        cases e309
        replace p309 := eq_true p309
        replace q309 := eq_true q309
        have p310 : 0 ≤ (x5_1 : Int) := of_decide_eq_true (by first | (with_reducible assumption) | assumption)
        have q310 : x5_1 < (l1.length : Int) := of_decide_eq_true (by first | (with_reducible assumption) | assumption)
        obtain ⟨ad310, e310, hx310_0, hx310_1, hx310_2, hx310_3⟩ := at_T65 HR1.out x5_1 p310 q310
        cases e310
        replace p310 := eq_true p310
        replace q310 := eq_true q310
        go_wp2
        repeat (go_quiet (fail); try go_wp2)
        go_ret
        exact ⟨by first | rfl | (simp; done) | (simp [*]; done), by repeat (first | exact Drawn0.refl _ | apply Drawn0.step)⟩
       ·rw [if_neg c7] at H
        have c7b0 : (!(((rd_T65 l0 x5_1).f0) == ((rd_T65 l1 x5_1).f0)) || ((!(((rd_T65 l0 x5_1).f1.f0) == ((rd_T65 l1 x5_1).f1.f0)) || (!(((rd_T65 l0 x5_1).f1.f1) == ((rd_T65 l1 x5_1).f1.f1)))) || (!(((rd_T65 l0 x5_1).f2) == ((rd_T65 l1 x5_1).f2))))) = false := by simpa using c7
        clear c7
        have H' := Aside0.mk H
        clear H
        have p309 : 0 ≤ (x5_1 : Int) := of_decide_eq_true (by first | (with_reducible assumption) | assumption)
        have q309 : x5_1 < (l0.length : Int) := of_decide_eq_true (by first | (with_reducible assumption) | assumption)
        obtain ⟨ad309, e309, hx309_0, hx309_1, hx309_2, hx309_3⟩ := at_T65 HR0.out x5_1 p309 q309
        cases e309
        replace p309 := eq_true p309
        replace q309 := eq_true q309
        have p310 : 0 ≤ (x5_1 : Int) := of_decide_eq_true (by first | (with_reducible assumption) | assumption)
        have q310 : x5_1 < (l1.length : Int) := of_decide_eq_true (by first | (with_reducible assumption) | assumption)
        obtain ⟨ad310, e310, hx310_0, hx310_1, hx310_2, hx310_3⟩ := at_T65 HR1.out x5_1 p310 q310
        cases e310
        replace p310 := eq_true p310
        replace q310 := eq_true q310
        go_wp2
        repeat (go_quiet (fail); try go_wp2)
        go_roundg k1
        case measure => have := HK1.out; omega
        case rel => exact ⟨(wrap64 (x5_1 + 1)), (by first | rfl | (simp; done) | (simp [*]; done)), H', ⟨by have := HK1.out; omega⟩, by repeat (first | exact Drawn0.refl _ | apply Drawn0.step)⟩
      ·rw [if_neg c6] at H
       exact absurd H (by simp)
     ·rw [if_neg c5] at H
      exact absurd H (by simp)
    ·rw [if_neg c4] at H
     have c4b0 : decide (x5_1 < (l0.length : Int)) = false := decide_eq_false c4
     clear c4
     obtain rfl := Option.some.inj H
     go_wp2
     repeat (go_quiet (fail); try go_wp2)
     go_ret
     exact ⟨by first | rfl | (simp; done) | (simp [*]; done), by repeat (first | exact Drawn0.refl _ | apply Drawn0.step)⟩
 ·rw [if_neg c3] at H
  have c3b0 : ((l0.length : Int) == (l1.length : Int)) = false := beq_eq_false_iff_ne.mpr c3
  have c3b1 : ((l0.length : Int) != (l1.length : Int)) = true := bne_iff_ne.mpr c3
  have c3b2 : (l0.length == l1.length) = false := by first | simpa using c3 | (simp at c3 ⊢; omega)
  obtain rfl := Option.some.inj H
  go_enter Try.func45, Try.ntmps45
  go_wp2
  repeat (go_quiet (fail); try go_wp2)
  go_ret
  exact ⟨by first | rfl | (simp; done) | (simp [*]; done), by repeat (first | exact Drawn0.refl _ | apply Drawn0.step)⟩

end Go.Proofs.Ytcfpbmdndapeaaa.F
