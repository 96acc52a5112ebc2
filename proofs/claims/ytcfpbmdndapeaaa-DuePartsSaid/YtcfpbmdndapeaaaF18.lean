-- Written by a program of this session (xprint.py), out of the translation and of contracts proved by hand.
import Derived.Test.YtcfpbmdndapeaaaF0
import Derived.Test.YtcfpbmdndapeaaaF3
import Derived.Test.YtcfpbmdndapeaaaF5
import Derived.Test.YtcfpbmdndapeaaaF6
import Derived.Test.YtcfpbmdndapeaaaF16
import Derived.Test.YtcfpbmdndapeaaaF17
namespace Go.Proofs.Ytcfpbmdndapeaaa.F
open Go.RowKit Go.Proofs.YtcfpbmdndapeaaaV.PrintWords Go.Proofs.YtcfpbmdndapeaaaV.PrintLast Go.Proofs.YtcfpbmdndapeaaaV.PrintMore
attribute [local go_sem] max2_int min2_int max_two min_two max_three min_three max_four min_four   -- for this text's walks alone
set_option linter.unusedVariables false
set_option linter.unusedSimpArgs false

/-! ### board_Put: function 15 -/
def board_Put.f (k : Nat) (a0_0 : Int) (a0_1 : Int) (l0_2 : List (S28)) (a1_0 : Int) (a1_1 : Int) (a1_2 : Int) (a1_3 : Int) (a1_4 : Int) (a1_5 : Int) : Option (Int × Int × (List (S28)) × Int) := (board_Is.f k a0_0 a0_1 l0_2).bind fun t270 => (if t270 = true then ((alarm_Is.f a1_0 a1_1 a1_2 a1_3 a1_4 a1_5).bind fun t271 => (if t271 = true then (if a1_4 > a0_1 then (none) else ((board_open.f a0_0 a0_1 l0_2).bind fun bt272 => ((board_alarms_find.f k bt272.1 a1_0 a1_1).bind fun bt281 => (if bt281.2 = true then (none) else (if (l0_2.length : Int) = a0_0 then (none) else ((board_alarms_with.f k bt272.1 bt281.1 0 (([(⟨(⟨a1_0, a1_1⟩ : S26), a1_2, a1_3, a1_4, a1_5⟩ : S28)] : List (S28)))).bind fun t286 => ((board_sheet_now.f bt272.1 bt272.2.1 bt272.2.2.1 bt272.2.2.2 t286).bind fun bt289 => (some (bt289.1, bt289.2.1, bt289.2.2, 0))))))))) else (none))) else (none))
theorem board_Put.mono : ∀ a0 a1 a2 a3 a4 a5 a6 a7 a8 k, LeO (board_Put.f k a0 a1 a2 a3 a4 a5 a6 a7 a8) (board_Put.f (k + 1) a0 a1 a2 a3 a4 a5 a6 a7 a8) := by
 intro a0 a1 a2 a3 a4 a5 a6 a7 a8 k
 unfold board_Put.f
 repeat' first
   | (with_reducible exact board_Is.mono _ _ _ _)
   | (with_reducible exact board_alarms_find.mono _ _ _ _)
   | (with_reducible exact board_alarms_with.mono _ _ _ _ _)
   | (with_reducible exact LeO.refl _)
   | (with_reducible exact LeO.none _)
   | (with_reducible refine LeO.ite ?_ ?_)
   | (with_reducible refine LeO.bind ?_ (fun _ => ?_))
   | exact board_Is.mono _ _ _ _
   | exact board_alarms_find.mono _ _ _ _
   | exact board_alarms_with.mono _ _ _ _ _
   | exact LeO.none _
   | refine LeO.ite ?_ ?_
   | refine LeO.bind ?_ (fun _ => ?_)
def board_Put.T9 : Bool × List (List Nat × List Nat) := (true, [([], []), ([], []), ([1], [1]), ([], []), ([], []), ([4], [4]), ([2, 3, 5], [2, 3, 5]), ([0, 6, 6], [0, 6]), ([7, 7, 0, 1, 2, 3, 4, 5, 6, 7], [7]), ([8, 0, 1, 2, 3, 4, 5, 6, 7, 8], [])])
def board_Put.B9 : List Nat := [0, 0, 2, 0, 0, 16, 62, 127, 255, 511]
theorem board_Put.tab9 : rtab .any (opsOf Try.f15 9) = board_Put.T9 := by kernel_rfl
theorem board_Put.bits9 : waitsOk board_Put.T9.2 board_Put.B9 = true := by kernel_rfl
set_option maxHeartbeats 8000000 in
set_option maxRecDepth 100000 in
theorem board_Put.calls (k : Nat) (a0_0 : Int) (a0_1 : Int) (A0_2 : Option Addr) (c0_2 : Nat) (l0_2 : List (S28)) (a1_0 : Int) (a1_1 : Int) (a1_2 : Int) (a1_3 : Int) (a1_4 : Int) (a1_5 : Int) (r1 : Int) (r2 : Int) (r3 : List (S28)) (r4 : Int) (w : World) (hr0_2 : Kd.C k28 w A0_2 l0_2.length l0_2) (hc0_2 : l0_2.length ≤ c0_2) (h : board_Put.f k a0_0 a0_1 l0_2 a1_0 a1_1 a1_2 a1_3 a1_4 a1_5 = some (r1, r2, r3, r4)) :
  Calls Try.prog 15 #[.agg #[.int .i64 a0_0, .int .i64 a0_1, .slice A0_2 l0_2.length c0_2], .agg #[.int .i64 a1_0, .int .i64 a1_1, .int .i64 a1_2, .int .i64 a1_3, .int .i64 a1_4, .int .i64 a1_5]] w fun e w' => ∃ v2_ : Value, e = .returned (.tuple #[.agg #[.int .i64 r1, .int .i64 r2, v2_], .int .i64 r4]) ∧ Kd.R k28 28 w' w.heap.size (fun _ => True) v2_ r3 ∧ Below w.heap.size w w' := by
 have hu24 := Try.underlying24
 have hu28 := Try.underlying28
 have hu72 := Try.underlying72
 have hu26 := Try.underlying26
 have HR0_2 := Aside0.mk hr0_2
 have HC0_2 := Aside0.mk hc0_2
 clear hr0_2 hc0_2
 have HB := Aside0.mk (Below.refl w.heap.size w)
 have H : ((board_Is.f k a0_0 a0_1 l0_2).bind fun t270 => (if t270 = true then ((alarm_Is.f a1_0 a1_1 a1_2 a1_3 a1_4 a1_5).bind fun t271 => (if t271 = true then (if a1_4 > a0_1 then (none) else ((board_open.f a0_0 a0_1 l0_2).bind fun bt272 => ((board_alarms_find.f k bt272.1 a1_0 a1_1).bind fun bt281 => (if bt281.2 = true then (none) else (if (l0_2.length : Int) = a0_0 then (none) else ((board_alarms_with.f k bt272.1 bt281.1 0 (([(⟨(⟨a1_0, a1_1⟩ : S26), a1_2, a1_3, a1_4, a1_5⟩ : S28)] : List (S28)))).bind fun t286 => ((board_sheet_now.f bt272.1 bt272.2.1 bt272.2.2.1 bt272.2.2.2 t286).bind fun bt289 => (some (bt289.1, bt289.2.1, bt289.2.2, 0))))))))) else (none))) else (none))) = some (r1, r2, r3, r4) := h
 clear h
 replace H := Option.bind_eq_some_iff.mp H
 obtain ⟨t270, A30, H⟩ := H
 try dsimp only at H
 have A3 := Aside0.mk A30
 clear A30
 by_cases c4 : t270 = true
 ·subst c4
  rw [if_pos rfl] at H; try dsimp only at H
  replace H := Option.bind_eq_some_iff.mp H
  obtain ⟨t271, A50, H⟩ := H
  try dsimp only at H
  have A5 := Aside0.mk A50
  clear A50
  by_cases c6 : t271 = true
  ·subst c6
   rw [if_pos rfl] at H; try dsimp only at H
   by_cases c7 : a1_4 > a0_1
   ·rw [if_pos c7] at H
    exact absurd H (by simp)
   ·rw [if_neg c7] at H
    have c7b0 : decide (a0_1 < a1_4) = false := decide_eq_false c7
    clear c7
    replace H := Option.bind_eq_some_iff.mp H
    obtain ⟨⟨t272, t275, t276, t277⟩, A80, H⟩ := H
    try dsimp only at H
    have A8 := Aside0.mk A80
    clear A80
    replace H := Option.bind_eq_some_iff.mp H
    obtain ⟨⟨t281, t282⟩, A90, H⟩ := H
    try dsimp only at H
    have A9 := Aside0.mk A90
    clear A90
    by_cases c10 : t282 = true
    ·subst c10
     rw [if_pos rfl] at H; try dsimp only at H
     exact absurd H (by simp)
    ·replace c10 := Bool.eq_false_iff.mpr c10
     subst c10
     rw [if_neg (show ¬ (false = true) by decide)] at H; try dsimp only at H
     by_cases c11 : (l0_2.length : Int) = a0_0
     ·rw [if_pos c11] at H
      exact absurd H (by simp)
     ·rw [if_neg c11] at H
      have c11b0 : ((l0_2.length : Int) == a0_0) = false := beq_eq_false_iff_ne.mpr c11
      have c11b1 : ((l0_2.length : Int) != a0_0) = true := bne_iff_ne.mpr c11
      obtain ⟨y283, hy283⟩ : ∃ y_ : List (S28), y_ = (([(⟨(⟨a1_0, a1_1⟩ : S26), a1_2, a1_3, a1_4, a1_5⟩ : S28)] : List (S28))) := ⟨_, rfl⟩
      replace H : ((board_alarms_with.f k t272 t281 0 y283).bind fun t286 => ((board_sheet_now.f t272 t275 t276 t277 t286).bind fun bt289 => (some (bt289.1, bt289.2.1, bt289.2.2, 0)))) = some (r1, r2, r3, r4) := by first | (rw [hy283]; with_reducible exact H) | (have H2_ := (Option.bind_some _ _).symm.trans H; rw [hy283]; with_reducible exact H2_) | (have H2_ := (Option.bind_some _ _).symm.trans H; with_reducible exact H2_) | with_reducible exact H | (rw [hy283]; exact H) | exact H
      have Ny283 := Aside0.mk hy283
      clear hy283
      replace H := Option.bind_eq_some_iff.mp H
      obtain ⟨t286, A120, H⟩ := H
      try dsimp only at H
      have A12 := Aside0.mk A120
      clear A120
      replace H := Option.bind_eq_some_iff.mp H
      obtain ⟨⟨t289, t290, t291⟩, A130, H⟩ := H
      try dsimp only at H
      have A13 := Aside0.mk A130
      clear A130
      simp only [Option.some.injEq, Prod.mk.injEq] at H
      obtain ⟨rfl, rfl, rfl, rfl⟩ := H
      go_enter Try.func15, Try.ntmps15
      try go_wp2_with (first | ((with_reducible refine gate_dst (N := 2) rfl ?_); refine box_event ?hg (N := 2) ?hd (cs := #[.int .i64 a0_0, .int .i64 a0_1, .slice A0_2 l0_2.length c0_2]) (t := 24) ?hr ?_; (case hd => rfl); (case hg => rfl); (case hr => first | (go_simp; done) | (go_simp; rfl)); intro gb267 hg w14 hbox hb; have BK267 := Aside0.mk (hbox); have GW267 := Aside0.mk ((by rw [hg]; exact (below_size HB.out) : w.heap.size ≤ gb267)); have GE267 := Aside0.mk ((by rw [hg]; exact (below_size HB.out) : w.heap.size ≤ gb267)); replace HB := Aside0.mk (below_step HB.out hb); clear hb hbox hg) | ((with_reducible refine gate_dst (N := 3) rfl ?_); refine box_event ?hg (N := 3) ?hd (cs := #[.int .i64 a1_0, .int .i64 a1_1, .int .i64 a1_2, .int .i64 a1_3, .int .i64 a1_4, .int .i64 a1_5]) (t := 28) ?hr ?_; (case hd => rfl); (case hg => rfl); (case hr => first | (go_simp; done) | (go_simp; rfl)); intro gb268 hg w15 hbox hb; have BK268 := Aside0.mk (hbox); have GW268 := Aside0.mk ((by rw [hg]; exact (below_size (by repeat (with_reducible first | exact HB.out | apply pw_below_drewN | apply below_drew1 | refine below_set ?_ GE267.out))) : w.heap.size ≤ gb268)); have GE268 := Aside0.mk ((by rw [hg]; exact (below_size (by repeat (with_reducible first | exact HB.out | apply pw_below_drewN | apply below_drew1 | refine below_set ?_ GE267.out))) : w.heap.size ≤ gb268)); replace HB := Aside0.mk (below_step (by repeat (with_reducible first | exact HB.out | apply pw_below_drewN | apply below_drew1 | refine below_set ?_ GE267.out)) hb); have NB267_268 := Aside0.mk ((by rw [hg]; exact Nat.ne_of_lt (blk_lt BK267.out) : gb267 ≠ gb268)); have NB268_267 := Aside0.mk ((by rw [hg]; exact Nat.ne_of_gt (blk_lt BK267.out) : gb268 ≠ gb267)); replace BK267 := bl_ BK267 hb; clear hb hbox hg) | ((with_reducible refine gate_dst (N := 4) rfl ?_); refine box_event ?hg (N := 4) ?hd (cs := #[.int .i64 0, .int .i64 0, .slice none 0 0]) (t := 24) ?hr ?_; (case hd => rfl); (case hg => rfl); (case hr => first | (go_simp; done) | (go_simp; rfl)); intro gb269 hg w16 hbox hb; have BK269 := Aside0.mk (hbox); have GW269 := Aside0.mk ((by rw [hg]; exact (below_size (by repeat (with_reducible first | exact HB.out | apply pw_below_drewN | apply below_drew1 | refine below_set ?_ (Aside0.out (by assumption))))) : w.heap.size ≤ gb269)); have GE269 := Aside0.mk ((by rw [hg]; exact (below_size (by repeat (with_reducible first | exact HB.out | apply pw_below_drewN | apply below_drew1 | refine below_set ?_ (Aside0.out (by assumption))))) : w.heap.size ≤ gb269)); replace HB := Aside0.mk (below_step (by repeat (with_reducible first | exact HB.out | apply pw_below_drewN | apply below_drew1 | refine below_set ?_ (Aside0.out (by assumption)))) hb); have NB267_269 := Aside0.mk ((by rw [hg]; exact Nat.ne_of_lt (blk_lt BK267.out) : gb267 ≠ gb269)); have NB269_267 := Aside0.mk ((by rw [hg]; exact Nat.ne_of_gt (blk_lt BK267.out) : gb269 ≠ gb267)); replace BK267 := bl_ BK267 hb; have NB268_269 := Aside0.mk ((by rw [hg]; exact Nat.ne_of_lt (blk_lt BK268.out) : gb268 ≠ gb269)); have NB269_268 := Aside0.mk ((by rw [hg]; exact Nat.ne_of_gt (blk_lt BK268.out) : gb269 ≠ gb268)); replace BK268 := bl_ BK268 hb; clear hb hbox hg; have hnb17 := NB267_268.out; have hnc17 := NB268_267.out; have hnb18 := NB267_269.out; have hnc18 := NB269_267.out; have hcz19_0 : w16.cell? ⟨gb267, 0, none⟩ = some (.int .i64 a0_0) := (blk_cell BK267.out 0).trans rfl; have hcz19_1 : w16.cell? ⟨gb267, 1, none⟩ = some (.int .i64 a0_1) := (blk_cell BK267.out 1).trans rfl; have hcz19_2 : w16.cell? ⟨gb267, 2, none⟩ = some (.slice A0_2 l0_2.length c0_2) := (blk_cell BK267.out 2).trans rfl; have hfz19_0 := blk_frozen BK267.out 0; have hfz19_1 := blk_frozen BK267.out 1; have hfz19_2 := blk_frozen BK267.out 2) | ((with_reducible refine gate_callee (f := 32) rfl ?_); refine goesL_ (some 10) rfl rfl Try.func32 (by kernel_rfl) rfl #[.agg #[.int .i64 a0_0, .int .i64 a0_1, .slice A0_2 l0_2.length c0_2]] rfl (by (try simp only [List.map_toArray, List.map_cons, List.map_nil]); first | done | rfl | (simp only [List.length_drop, List.length_take]; rfl)) ?_; (with_reducible refine (board_Is.calls k a0_0 a0_1 _ _ l0_2 true _ ?side1 ?side2 A3.out).mono ?_); (case side1 => exact (Kd.C_below HR0_2.out HB.out)); (case side2 => exact HC0_2.out); rintro e w20 ⟨rfl, hb⟩; refine ⟨_, rfl, ?_⟩; replace BK267 := bl_ BK267 hb; replace BK268 := bl_ BK268 hb; replace BK269 := bl_ BK269 hb; replace HB := Aside0.mk (below_step (by repeat (with_reducible first | exact HB.out | apply pw_below_drewN | apply below_drew1 | refine below_set ?_ (Aside0.out (by assumption)))) hb); (try clear hb); (try clear hb2); (try clear hk); (try clear hi); have hnb21 := NB268_269.out; have hnc21 := NB269_268.out; have hcz22_0 : w20.cell? ⟨gb268, 0, none⟩ = some (.int .i64 a1_0) := (blk_cell BK268.out 0).trans rfl; have hcz22_1 : w20.cell? ⟨gb268, 1, none⟩ = some (.int .i64 a1_1) := (blk_cell BK268.out 1).trans rfl; have hcz22_2 : w20.cell? ⟨gb268, 2, none⟩ = some (.int .i64 a1_2) := (blk_cell BK268.out 2).trans rfl; have hcz22_3 : w20.cell? ⟨gb268, 3, none⟩ = some (.int .i64 a1_3) := (blk_cell BK268.out 3).trans rfl; have hcz22_4 : w20.cell? ⟨gb268, 4, none⟩ = some (.int .i64 a1_4) := (blk_cell BK268.out 4).trans rfl; have hcz22_5 : w20.cell? ⟨gb268, 5, none⟩ = some (.int .i64 a1_5) := (blk_cell BK268.out 5).trans rfl; have hfz22_0 := blk_frozen BK268.out 0; have hfz22_1 := blk_frozen BK268.out 1; have hfz22_2 := blk_frozen BK268.out 2; have hfz22_3 := blk_frozen BK268.out 3; have hfz22_4 := blk_frozen BK268.out 4; have hfz22_5 := blk_frozen BK268.out 5) | (go_at_call 50; (with_reducible refine (alarm_Is.calls a1_0 a1_1 a1_2 a1_3 a1_4 a1_5 true _ A5.out).mono ?_); rintro e w23 ⟨rfl, hb⟩; replace BK267 := bl_ BK267 hb; replace BK268 := bl_ BK268 hb; replace BK269 := bl_ BK269 hb; replace HB := Aside0.mk (below_step (by repeat (with_reducible first | exact HB.out | apply pw_below_drewN | apply below_drew1 | refine below_set ?_ (Aside0.out (by assumption)))) hb); (try clear hb); (try clear hb2); (try clear hk); (try clear hi); have hcz24_0 : w23.cell? ⟨gb268, 0, none⟩ = some (.int .i64 a1_0) := (blk_cell BK268.out 0).trans rfl; have hcz24_1 : w23.cell? ⟨gb268, 1, none⟩ = some (.int .i64 a1_1) := (blk_cell BK268.out 1).trans rfl; have hcz24_2 : w23.cell? ⟨gb268, 2, none⟩ = some (.int .i64 a1_2) := (blk_cell BK268.out 2).trans rfl; have hcz24_3 : w23.cell? ⟨gb268, 3, none⟩ = some (.int .i64 a1_3) := (blk_cell BK268.out 3).trans rfl; have hcz24_4 : w23.cell? ⟨gb268, 4, none⟩ = some (.int .i64 a1_4) := (blk_cell BK268.out 4).trans rfl; have hcz24_5 : w23.cell? ⟨gb268, 5, none⟩ = some (.int .i64 a1_5) := (blk_cell BK268.out 5).trans rfl; have hfz24_0 := blk_frozen BK268.out 0; have hfz24_1 := blk_frozen BK268.out 1; have hfz24_2 := blk_frozen BK268.out 2; have hfz24_3 := blk_frozen BK268.out 3; have hfz24_4 := blk_frozen BK268.out 4; have hfz24_5 := blk_frozen BK268.out 5; have hcz25_0 : w23.cell? ⟨gb267, 0, none⟩ = some (.int .i64 a0_0) := (blk_cell BK267.out 0).trans rfl; have hcz25_1 : w23.cell? ⟨gb267, 1, none⟩ = some (.int .i64 a0_1) := (blk_cell BK267.out 1).trans rfl; have hcz25_2 : w23.cell? ⟨gb267, 2, none⟩ = some (.slice A0_2 l0_2.length c0_2) := (blk_cell BK267.out 2).trans rfl; have hfz25_0 := blk_frozen BK267.out 0; have hfz25_1 := blk_frozen BK267.out 1; have hfz25_2 := blk_frozen BK267.out 2) | ((with_reducible refine gate_callee (f := 51) rfl ?_); refine goesL_ (some 26) rfl rfl Try.func51 (by kernel_rfl) rfl #[.agg #[.int .i64 a0_0, .int .i64 a0_1, .slice A0_2 l0_2.length c0_2]] rfl (by (try simp only [List.map_toArray, List.map_cons, List.map_nil]); first | done | rfl | (simp only [List.length_drop, List.length_take]; rfl)) ?_; (with_reducible refine (board_open.calls a0_0 a0_1 (fun k_ => k_ < w.heap.size) _ _ l0_2 t272 t275 t276 t277 _ ?side1 A8.out).mono ?_); (case side1 => exact Kd.V_mk HC0_2.out (Kd.F_below (Kd.C_F k28_heap HR0_2.out) (by repeat (with_reducible first | exact HB.out | apply pw_below_drewN | apply below_drew1 | refine below_set ?_ (Aside0.out (by assumption)))))); rintro e w26 ⟨v273, v278, rfl, ho0, ho1, hb⟩; refine ⟨_, rfl, ?_⟩; have HO274 := Aside0.mk (Kd.V_lower (Kd.V_mono (ok' := fun k_ => k_ ≠ gb267 ∧ k_ ≠ gb268 ∧ k_ ≠ gb269) ho0 (fun k_ hk_ => ⟨Or.elim hk_ (fun hs_ => fun e_ => Nat.not_le.2 hs_ (by rw [e_]; exact GW267.out)) (fun hn_ => (Kd.freshB (g := gb267) (o := .cells #[.int .i64 a0_0, .int .i64 a0_1, .slice A0_2 l0_2.length c0_2] 24 (0, 0)) BK267.out k_ hn_)), Or.elim hk_ (fun hs_ => fun e_ => Nat.not_le.2 hs_ (by rw [e_]; exact GW268.out)) (fun hn_ => (Kd.freshB (g := gb268) (o := .cells #[.int .i64 a1_0, .int .i64 a1_1, .int .i64 a1_2, .int .i64 a1_3, .int .i64 a1_4, .int .i64 a1_5] 28 (0, 0)) BK268.out k_ hn_)), Or.elim hk_ (fun hs_ => fun e_ => Nat.not_le.2 hs_ (by rw [e_]; exact GW269.out)) (fun hn_ => (Kd.freshB (g := gb269) (o := .cells #[.int .i64 0, .int .i64 0, .slice none 0 0] 24 (0, 0)) BK269.out k_ hn_))⟩)) (below_size (by repeat (with_reducible first | exact HB.out | apply pw_below_drewN | apply below_drew1 | refine below_set ?_ (Aside0.out (by assumption)))))); have HO279 := Aside0.mk (Kd.V_lower (Kd.V_mono (ok' := fun k_ => k_ ≠ gb267 ∧ k_ ≠ gb268 ∧ k_ ≠ gb269) ho1 (fun k_ hk_ => ⟨Or.elim hk_ (fun hs_ => fun e_ => Nat.not_le.2 hs_ (by rw [e_]; exact GW267.out)) (fun hn_ => (Kd.freshB (g := gb267) (o := .cells #[.int .i64 a0_0, .int .i64 a0_1, .slice A0_2 l0_2.length c0_2] 24 (0, 0)) BK267.out k_ hn_)), Or.elim hk_ (fun hs_ => fun e_ => Nat.not_le.2 hs_ (by rw [e_]; exact GW268.out)) (fun hn_ => (Kd.freshB (g := gb268) (o := .cells #[.int .i64 a1_0, .int .i64 a1_1, .int .i64 a1_2, .int .i64 a1_3, .int .i64 a1_4, .int .i64 a1_5] 28 (0, 0)) BK268.out k_ hn_)), Or.elim hk_ (fun hs_ => fun e_ => Nat.not_le.2 hs_ (by rw [e_]; exact GW269.out)) (fun hn_ => (Kd.freshB (g := gb269) (o := .cells #[.int .i64 0, .int .i64 0, .slice none 0 0] 24 (0, 0)) BK269.out k_ hn_))⟩)) (below_size (by repeat (with_reducible first | exact HB.out | apply pw_below_drewN | apply below_drew1 | refine below_set ?_ (Aside0.out (by assumption)))))); replace BK267 := bl_ BK267 hb; replace BK268 := bl_ BK268 hb; replace BK269 := bl_ BK269 hb; replace HB := Aside0.mk (below_step (by repeat (with_reducible first | exact HB.out | apply pw_below_drewN | apply below_drew1 | refine below_set ?_ (Aside0.out (by assumption)))) hb); (try clear hb); (try clear hb2); (try clear hk); (try clear hi); (try clear ho0); (try clear ho1)) | ((with_reducible refine gate_dst (N := 6) rfl ?_); refine box_event ?hg (N := 6) ?hd (cs := #[.slice none 0 0, .int .i64 0, .int .i64 0, .slice none 0 0]) (t := 72) ?hr ?_; (case hd => rfl); (case hg => rfl); (case hr => first | (go_simp; done) | (go_simp; rfl)); intro gb280 hg w27 hbox hb; replace HO274 := Aside0.mk (Kd.V_below (Kd.V_elderB (HO274.out) gb280 (Nat.le_of_eq hg.symm)) hb); replace HO279 := Aside0.mk (Kd.V_below (Kd.V_elderB (HO279.out) gb280 (Nat.le_of_eq hg.symm)) hb); have BK280 := Aside0.mk (hbox); have GW280 := Aside0.mk ((by rw [hg]; exact (below_size (by repeat (with_reducible first | exact HB.out | apply pw_below_drewN | apply below_drew1 | refine below_set ?_ (Aside0.out (by assumption))))) : w.heap.size ≤ gb280)); have GE280 := Aside0.mk ((by rw [hg]; exact (below_size (by repeat (with_reducible first | exact HB.out | apply pw_below_drewN | apply below_drew1 | refine below_set ?_ (Aside0.out (by assumption))))) : w.heap.size ≤ gb280)); replace HB := Aside0.mk (below_step (by repeat (with_reducible first | exact HB.out | apply pw_below_drewN | apply below_drew1 | refine below_set ?_ (Aside0.out (by assumption)))) hb); have NB267_280 := Aside0.mk ((by rw [hg]; exact Nat.ne_of_lt (blk_lt BK267.out) : gb267 ≠ gb280)); have NB280_267 := Aside0.mk ((by rw [hg]; exact Nat.ne_of_gt (blk_lt BK267.out) : gb280 ≠ gb267)); replace BK267 := bl_ BK267 hb; have NB268_280 := Aside0.mk ((by rw [hg]; exact Nat.ne_of_lt (blk_lt BK268.out) : gb268 ≠ gb280)); have NB280_268 := Aside0.mk ((by rw [hg]; exact Nat.ne_of_gt (blk_lt BK268.out) : gb280 ≠ gb268)); replace BK268 := bl_ BK268 hb; have NB269_280 := Aside0.mk ((by rw [hg]; exact Nat.ne_of_lt (blk_lt BK269.out) : gb269 ≠ gb280)); have NB280_269 := Aside0.mk ((by rw [hg]; exact Nat.ne_of_gt (blk_lt BK269.out) : gb280 ≠ gb269)); replace BK269 := bl_ BK269 hb; clear hb hbox hg; obtain ⟨Ao28, co28, eo28⟩ := Kd.V_slice HO274.out; subst eo28; have hnb29 := NB280_267.out; have hnc29 := NB267_280.out; have hnb30 := NB280_268.out; have hnc30 := NB268_280.out; have hnb31 := NB280_269.out; have hnc31 := NB269_280.out; have hcz32_0 : w27.cell? ⟨gb280, 0, none⟩ = some (.slice none 0 0) := (blk_cell BK280.out 0).trans rfl; have hcz32_1 : w27.cell? ⟨gb280, 1, none⟩ = some (.int .i64 0) := (blk_cell BK280.out 1).trans rfl; have hcz32_2 : w27.cell? ⟨gb280, 2, none⟩ = some (.int .i64 0) := (blk_cell BK280.out 2).trans rfl; have hcz32_3 : w27.cell? ⟨gb280, 3, none⟩ = some (.slice none 0 0) := (blk_cell BK280.out 3).trans rfl; have hfz32_0 := blk_frozen BK280.out 0; have hfz32_1 := blk_frozen BK280.out 1; have hfz32_2 := blk_frozen BK280.out 2; have hfz32_3 := blk_frozen BK280.out 3; obtain ⟨Ao33, co33, eo33⟩ := Kd.V_slice HO279.out; subst eo33; have hcz34_0 : w27.cell? ⟨gb268, 0, none⟩ = some (.int .i64 a1_0) := (blk_cell BK268.out 0).trans rfl; have hcz34_1 : w27.cell? ⟨gb268, 1, none⟩ = some (.int .i64 a1_1) := (blk_cell BK268.out 1).trans rfl; have hcz34_2 : w27.cell? ⟨gb268, 2, none⟩ = some (.int .i64 a1_2) := (blk_cell BK268.out 2).trans rfl; have hcz34_3 : w27.cell? ⟨gb268, 3, none⟩ = some (.int .i64 a1_3) := (blk_cell BK268.out 3).trans rfl; have hcz34_4 : w27.cell? ⟨gb268, 4, none⟩ = some (.int .i64 a1_4) := (blk_cell BK268.out 4).trans rfl; have hcz34_5 : w27.cell? ⟨gb268, 5, none⟩ = some (.int .i64 a1_5) := (blk_cell BK268.out 5).trans rfl; have hfz34_0 := blk_frozen BK268.out 0; have hfz34_1 := blk_frozen BK268.out 1; have hfz34_2 := blk_frozen BK268.out 2; have hfz34_3 := blk_frozen BK268.out 3; have hfz34_4 := blk_frozen BK268.out 4; have hfz34_5 := blk_frozen BK268.out 5) | ((with_reducible refine gate_callee (f := 52) rfl ?_); refine goesL_ (some 32) rfl rfl Try.func52 (by kernel_rfl) rfl #[.slice Ao28 t272.length co28, .agg #[.int .i64 a1_0, .int .i64 a1_1]] rfl (by (try simp only [List.map_toArray, List.map_cons, List.map_nil]); first | done | rfl | (simp only [List.length_drop, List.length_take]; rfl)) ?_; (with_reducible refine (board_alarms_find.calls k _ _ t272 a1_0 a1_1 t281 false _ ?side1 ?side2 A9.out).mono ?_); (case side1 => refine (Kd.V_reads' (e := 28) (base := w.heap.size) (ok := fun k_ => ((k_ ≠ gb267 ∧ (k_ ≠ gb268 ∧ k_ ≠ gb269)) ∧ k_ ≠ gb280)) (n := t272.length) (c := co28) ?_).2.2; exact (by (with_reducible repeat (first | apply Kd.V_alloc | apply Kd.V_drewN | apply Kd.V_drew)); exact (Kd.V_mono (Kd.V_far (p := ⟨gb280, 3, none⟩) (Kd.V_far (p := ⟨gb280, 2, none⟩) (Kd.V_far (p := ⟨gb280, 1, none⟩) (Kd.V_far (p := ⟨gb280, 0, none⟩) (Kd.V_mono HO274.out (fun k_ hk => (⟨hk, hk.2⟩ : _ ∧ k_ ≠ gb280))) (fun _ hk => hk.2) (.slice Ao28 t272.length co28)) (fun _ hk => hk.2) (.int .i64 t275)) (fun _ hk => hk.2) (.int .i64 t276)) (fun _ hk => hk.2) (.slice Ao33 t277.length co33)) (fun _ h_ => h_.1)))); (case side2 => exact (Kd.V_reads' HO274.out).2.1); rintro e w35 ⟨rfl, hb⟩; refine ⟨_, rfl, ?_⟩; replace HO274 := Aside0.mk (Kd.V_below (by (with_reducible repeat (first | apply Kd.V_alloc | apply Kd.V_drewN | apply Kd.V_drew)); exact (Kd.V_mono (Kd.V_far (p := ⟨gb280, 3, none⟩) (Kd.V_far (p := ⟨gb280, 2, none⟩) (Kd.V_far (p := ⟨gb280, 1, none⟩) (Kd.V_far (p := ⟨gb280, 0, none⟩) (Kd.V_mono HO274.out (fun k_ hk => (⟨hk, hk.2⟩ : _ ∧ k_ ≠ gb280))) (fun _ hk => hk.2) (.slice Ao28 t272.length co28)) (fun _ hk => hk.2) (.int .i64 t275)) (fun _ hk => hk.2) (.int .i64 t276)) (fun _ hk => hk.2) (.slice Ao33 t277.length co33)) (fun _ h_ => h_.1))) hb); replace HO279 := Aside0.mk (Kd.V_below (by (with_reducible repeat (first | apply Kd.V_alloc | apply Kd.V_drewN | apply Kd.V_drew)); exact (Kd.V_mono (Kd.V_far (p := ⟨gb280, 3, none⟩) (Kd.V_far (p := ⟨gb280, 2, none⟩) (Kd.V_far (p := ⟨gb280, 1, none⟩) (Kd.V_far (p := ⟨gb280, 0, none⟩) (Kd.V_mono HO279.out (fun k_ hk => (⟨hk, hk.2⟩ : _ ∧ k_ ≠ gb280))) (fun _ hk => hk.2) (.slice Ao28 t272.length co28)) (fun _ hk => hk.2) (.int .i64 t275)) (fun _ hk => hk.2) (.int .i64 t276)) (fun _ hk => hk.2) (.slice Ao33 t277.length co33)) (fun _ h_ => h_.1))) hb); replace BK267 := Aside0.mk (blk_below (g := gb267) (o := .cells #[.int .i64 a0_0, .int .i64 a0_1, .slice A0_2 l0_2.length c0_2] 24 (0, 0)) (by refine blk_far ?_ NB267_280.out _; refine blk_far ?_ NB267_280.out _; refine blk_far ?_ NB267_280.out _; refine blk_far ?_ NB267_280.out _; exact BK267.out) hb); replace BK268 := Aside0.mk (blk_below (g := gb268) (o := .cells #[.int .i64 a1_0, .int .i64 a1_1, .int .i64 a1_2, .int .i64 a1_3, .int .i64 a1_4, .int .i64 a1_5] 28 (0, 0)) (by refine blk_far ?_ NB268_280.out _; refine blk_far ?_ NB268_280.out _; refine blk_far ?_ NB268_280.out _; refine blk_far ?_ NB268_280.out _; exact BK268.out) hb); replace BK269 := Aside0.mk (blk_below (g := gb269) (o := .cells #[.int .i64 0, .int .i64 0, .slice none 0 0] 24 (0, 0)) (by refine blk_far ?_ NB269_280.out _; refine blk_far ?_ NB269_280.out _; refine blk_far ?_ NB269_280.out _; refine blk_far ?_ NB269_280.out _; exact BK269.out) hb); replace BK280 := Aside0.mk (blk_below (g := gb280) (o := .cells #[.slice Ao28 t272.length co28, .int .i64 t275, .int .i64 t276, .slice Ao33 t277.length co33] 72 (0, 0)) (by refine blk_put (cs := #[.slice Ao28 t272.length co28, .int .i64 t275, .int .i64 t276, .slice none 0 0]) ?_ 3 _ rfl; refine blk_put (cs := #[.slice Ao28 t272.length co28, .int .i64 t275, .int .i64 0, .slice none 0 0]) ?_ 2 _ rfl; refine blk_put (cs := #[.slice Ao28 t272.length co28, .int .i64 0, .int .i64 0, .slice none 0 0]) ?_ 1 _ rfl; refine blk_put (cs := #[.slice none 0 0, .int .i64 0, .int .i64 0, .slice none 0 0]) ?_ 0 _ rfl; exact BK280.out) hb); replace HB := Aside0.mk (below_step (by repeat (with_reducible first | exact HB.out | apply pw_below_drewN | apply below_drew1 | refine below_set ?_ (Aside0.out (by assumption)))) hb); (try clear hb); (try clear hb2); (try clear hk); (try clear hi); have hcz36_0 : w35.cell? ⟨gb267, 0, none⟩ = some (.int .i64 a0_0) := (blk_cell BK267.out 0).trans rfl; have hcz36_1 : w35.cell? ⟨gb267, 1, none⟩ = some (.int .i64 a0_1) := (blk_cell BK267.out 1).trans rfl; have hcz36_2 : w35.cell? ⟨gb267, 2, none⟩ = some (.slice A0_2 l0_2.length c0_2) := (blk_cell BK267.out 2).trans rfl; have hfz36_0 := blk_frozen BK267.out 0; have hfz36_1 := blk_frozen BK267.out 1; have hfz36_2 := blk_frozen BK267.out 2))
      replace HO274 := Aside0.mk (Kd.V_drew HO274.out)
      replace HO279 := Aside0.mk (Kd.V_drew HO279.out)
      replace BK267 := Aside0.mk (blk_drew BK267.out)
      replace BK268 := Aside0.mk (blk_drew BK268.out)
      replace BK269 := Aside0.mk (blk_drew BK269.out)
      replace BK280 := Aside0.mk (blk_drew BK280.out)
      replace HB := Aside0.mk (below_drew1 HB.out)
      refine start_ (n := 10) (S := fun w' => w'.cell? ⟨gb280, 0, none⟩ = some (.slice Ao28 t272.length co28) ∧ w'.cell? ⟨gb280, 1, none⟩ = some (.int .i64 t275) ∧ w'.cell? ⟨gb280, 2, none⟩ = some (.int .i64 t276) ∧ w'.cell? ⟨gb280, 3, none⟩ = some (.slice Ao33 t277.length co33) ∧ w'.cell? ⟨gb268, 0, none⟩ = some (.int .i64 a1_0) ∧ w'.cell? ⟨gb268, 1, none⟩ = some (.int .i64 a1_1) ∧ w'.cell? ⟨gb268, 2, none⟩ = some (.int .i64 a1_2) ∧ w'.cell? ⟨gb268, 3, none⟩ = some (.int .i64 a1_3) ∧ w'.cell? ⟨gb268, 4, none⟩ = some (.int .i64 a1_4) ∧ w'.cell? ⟨gb268, 5, none⟩ = some (.int .i64 a1_5)) (ds := []) #[false, false, false, false, false, false, false, false, false, false] (by kernel_rfl) rfl rfl ⟨(blk_cell BK280.out 0).trans rfl, (blk_cell BK280.out 1).trans rfl, (blk_cell BK280.out 2).trans rfl, (blk_cell BK280.out 3).trans rfl, (blk_cell BK268.out 0).trans rfl, (blk_cell BK268.out 1).trans rfl, (blk_cell BK268.out 2).trans rfl, (blk_cell BK268.out 3).trans rfl, (blk_cell BK268.out 4).trans rfl, (blk_cell BK268.out 5).trans rfl⟩ (fun hHeld => ?_); refine with_tabW board_Put.tab9 board_Put.bits9 (fun HT_ HW_ => ?_)
      generalize w35.drew = w37 at HO274 HO279 BK267 BK268 BK269 BK280 HB hHeld ⊢
      have Q_ := Qs.mk (n := 10) [(0, 1, 54, 2), (0, 3, 56, 10), (2, 0, 53, 11), (2, 2, 55, 15), (2, 4, 57, 31)]
      iterate 5 (first | (obtain ⟨q_, Q_⟩ := Qs.p Q_; refine pureQ_ q_ (v := ?_) (a' := ?_) rfl rfl (any_of HT_.out (by kernel_rfl)) (fun _ _ _ h => h) (Or.inl ⟨by rfl, ?_⟩) ?_ ?_; rotate_left; (intro w'; go_simp; with_reducible rfl); rotate_left; (simp only [Act.put, List.setIfInBounds_toArray, List.set_cons_zero, List.set_cons_succ, i64_w, i32_w]; rfl)) | (obtain ⟨q_, Q_⟩ := Qs.t Q_; refine takeQ_ q_ (v := ?_) (a' := ?_) rfl rfl (take_ofW HT_.out HW_.out (by kernel_rfl)) (fun _ _ _ h => h) (Or.inl ⟨by rfl, ?_⟩) hHeld ?_ ?_; rotate_left; (rintro w' ⟨s0, s1, s2, s3, s4, s5, s6, s7, s8, s9⟩; go_simp; with_reducible rfl); rotate_left; (simp only [Act.put, List.setIfInBounds_toArray, List.set_cons_zero, List.set_cons_succ, i64_w, i32_w]; rfl)))
      clear Q_
      refine one_ (i := 5) (N := some 58) (dn_ 6 10) rfl rfl (one_of HT_.out (by kernel_rfl)) (by decide) (fun K hK => ?_)
      refine Kd.R_lit_step k28 _ 28 ?hg (N := 58) ?hd (xs := ([(⟨(⟨a1_0, a1_1⟩ : S26), a1_2, a1_3, a1_4, a1_5⟩ : S28)] : List (S28))) (inner := [.int .i64 a1_0, .int .i64 a1_1, .int .i64 a1_2, .int .i64 a1_3, .int .i64 a1_4, .int .i64 a1_5]) (ok := fun _ => True) (okp := fun _ => True) ?hr ?hp (fun _ hk => hk) trivial (Below.refl _ _) (Nat.le_refl _) (by simp) ?_; (case hd => rfl); (case hg => rfl); (case hr => first | (go_simp; done) | (go_simp; rfl)); (case hp => exact (Reps.c6 (show Kd.M k28 _ _ _ (⟨(⟨a1_0, a1_1⟩ : S26), a1_2, a1_3, a1_4, a1_5⟩ : S28) [.int .i64 a1_0, .int .i64 a1_1, .int .i64 a1_2, .int .i64 a1_3, .int .i64 a1_4, .int .i64 a1_5] from (k28_mkM _ _ _ (⟨(⟨a1_0, a1_1⟩ : S26), a1_2, a1_3, a1_4, a1_5⟩ : S28) )) (Reps.none _ _)))
      intro v284 w38 ho39 hb hg_ hnew_
      clear hg_ hnew_
      (first | rw [← Ny283.out] at ho39 | (simp only [Int.reduceToNat] at ho39; rw [← Ny283.out] at ho39))
      replace HO274 := Aside0.mk (Kd.V_elder' (HO274.out) (Kd.R_base ho39) hb)
      replace HO279 := Aside0.mk (Kd.V_elder' (HO279.out) (Kd.R_base ho39) hb)
      have HO285 := Aside0.mk (Kd.R_lower (Kd.R_newB ho39 (g := gb268) (o := .cells #[.int .i64 a1_0, .int .i64 a1_1, .int .i64 a1_2, .int .i64 a1_3, .int .i64 a1_4, .int .i64 a1_5] 28 (0, 0)) BK268.out) (below_size (by repeat (with_reducible first | exact HB.out | apply pw_below_drewN | apply below_drew1 | refine below_set ?_ (Aside0.out (by assumption))))))
      replace BK267 := bl_ BK267 hb
      replace BK268 := bl_ BK268 hb
      replace BK269 := bl_ BK269 hb
      replace BK280 := bl_ BK280 hb
      replace HB := Aside0.mk (below_step (by repeat (with_reducible first | exact HB.out | apply pw_below_drewN | apply below_drew1 | refine below_set ?_ (Aside0.out (by assumption)))) hb)
      clear hb ho39
      obtain ⟨Ao40, co40, eo40⟩ := Kd.R_slice HO285.out
      (first | subst eo40 | (injection eo40 with f1_ f2_ f3_; have f4_ := f1_.symm; have f5_ := f3_.symm; clear f1_ f2_ f3_; subst f4_; subst f5_))
      refine hK.out _ _ ⟨(blk_cell BK280.out 0).trans rfl, (blk_cell BK280.out 1).trans rfl, (blk_cell BK280.out 2).trans rfl, (blk_cell BK280.out 3).trans rfl, (blk_cell BK268.out 0).trans rfl, (blk_cell BK268.out 1).trans rfl, (blk_cell BK268.out 2).trans rfl, (blk_cell BK268.out 3).trans rfl, (blk_cell BK268.out 4).trans rfl, (blk_cell BK268.out 5).trans rfl⟩ (fun hHeld => ?_)
      clear hK K
      refine norm_ (a' := ?_) ?_ ?_
      rotate_left
      ·show Act.put _ (some 58) _ = _
       simp only [Act.put, List.setIfInBounds_toArray, List.set_cons_zero, List.set_cons_succ, i64_w, i32_w]
       rfl
      refine one_ (i := 6) (N := some 59) (dn_ 7 10) rfl rfl (one_of HT_.out (by kernel_rfl)) (by decide) (fun K hK => ?_)
      refine goes_ Try.func54 (by kernel_rfl) rfl #[.slice Ao28 t272.length co28, .int .i64 t281, .int .i64 0, .slice Ao40 y283.length co40] (by rfl) rfl rfl (by (try simp only [List.map_toArray, List.map_cons, List.map_nil]); first | done | rfl | (simp only [List.length_drop, List.length_take]; rfl)) ?_
      with_reducible refine (board_alarms_with.calls k (fun k_ => (((k_ ≠ gb267 ∧ (k_ ≠ gb268 ∧ k_ ≠ gb269)) ∧ k_ ≠ gb280) ∧ some k_ ≠ (.slice Ao40 y283.length co40 : Value).ownBlock)) _ _ t272 t281 0 (fun k_ => some k_ = (.slice Ao40 y283.length co40 : Value).ownBlock) _ _ y283 t286 _ ?side1 ?side2 A12.out).mono ?_
      (case side1 => exact HO274.out)
      (case side2 => exact Kd.R_V (Kd.R_tight rfl (Kd.R_types (Kd.R_types (Kd.R_types (HO285.out) BK267.out (by decide)) BK269.out (by decide)) BK280.out (by decide))))
      rintro e w41 ⟨v287, rfl, ho0, hb⟩
      refine ⟨_, rfl, ?_⟩
      replace HO274 := Aside0.mk (Kd.V_elder' (HO274.out) (Kd.R_base ho0) hb)
      replace HO279 := Aside0.mk (Kd.V_elder' (HO279.out) (Kd.R_base ho0) hb)
      have HO288 := Aside0.mk (Kd.R_lower (Kd.R_newB (Kd.R_new' (Kd.R_mono (ok' := fun k_ => True) ho0 (fun _ hk_ => trivial)) (Kd.R_lt (HO285.out))) (g := gb268) (o := .cells #[.int .i64 a1_0, .int .i64 a1_1, .int .i64 a1_2, .int .i64 a1_3, .int .i64 a1_4, .int .i64 a1_5] 28 (0, 0)) BK268.out) (below_size (by repeat (with_reducible first | exact HB.out | apply pw_below_drewN | apply below_drew1 | refine below_set ?_ (Aside0.out (by assumption))))))
      replace HO285 := Aside0.mk (Kd.R_elder' (HO285.out) (Kd.R_base ho0) hb)
      replace BK267 := bl_ BK267 hb
      replace BK268 := bl_ BK268 hb
      replace BK269 := bl_ BK269 hb
      replace BK280 := bl_ BK280 hb
      replace HB := Aside0.mk (below_step (by repeat (with_reducible first | exact HB.out | apply pw_below_drewN | apply below_drew1 | refine below_set ?_ (Aside0.out (by assumption)))) hb)
      (try clear hb)
      (try clear hb2)
      (try clear hk)
      (try clear hi)
      (try clear ho0)
      obtain ⟨Ao42, co42, eo42⟩ := Kd.R_slice HO288.out
      (first | subst eo42 | (injection eo42 with f1_ f2_ f3_; have f4_ := f1_.symm; have f5_ := f3_.symm; clear f1_ f2_ f3_; subst f4_; subst f5_))
      refine hK.out _ _ ⟨(blk_cell BK280.out 0).trans rfl, (blk_cell BK280.out 1).trans rfl, (blk_cell BK280.out 2).trans rfl, (blk_cell BK280.out 3).trans rfl, (blk_cell BK268.out 0).trans rfl, (blk_cell BK268.out 1).trans rfl, (blk_cell BK268.out 2).trans rfl, (blk_cell BK268.out 3).trans rfl, (blk_cell BK268.out 4).trans rfl, (blk_cell BK268.out 5).trans rfl⟩ (fun hHeld => ?_)
      clear hK K
      refine norm_ (a' := ?_) ?_ ?_
      rotate_left
      ·show Act.put _ (some 59) _ = _
       simp only [Act.put, List.setIfInBounds_toArray, List.set_cons_zero, List.set_cons_succ, i64_w, i32_w]
       rfl
      refine one_ (i := 7) (N := some 60) (dn_ 8 10) rfl rfl (one_of HT_.out (by kernel_rfl)) (by decide) (fun K hK => ?_)
      refine goes_ Try.func53 (by kernel_rfl) rfl #[.agg #[.slice Ao28 t272.length co28, .int .i64 t275, .int .i64 t276, .slice Ao33 t277.length co33], .slice Ao42 t286.length co42] (by rfl) rfl rfl (by (try simp only [List.map_toArray, List.map_cons, List.map_nil]); first | done | rfl | (simp only [List.length_drop, List.length_take]; rfl)) ?_
      with_reducible refine (board_sheet_now.calls _ _ t272 t275 t276 _ _ t277 (fun k_ => some k_ = (.slice Ao42 t286.length co42 : Value).ownBlock) (.slice Ao42 t286.length co42) t286 t289 t290 t291 w _ ?side1 ?side2 ?side3 ?side4 ?side5 ?side6 A13.out).mono ?_
      (case side1 => repeat (first | (with_reducible first | exact HB.out | apply below_alloc | apply pw_below_drewN | apply below_drew1 | refine below_set ?_ GE267.out | refine below_set ?_ GE268.out | refine below_set ?_ GE269.out | refine below_set ?_ GE280.out) | exact HB.out))
      (case side2 => exact Kd.C_kept_ownV (HO274.out) (fun k_ hk_ hs_ => (hk_.2) hs_))
      (case side3 => exact (Kd.V_reads' HO274.out).2.1)
      (case side4 => exact Kd.C_kept_ownV (HO279.out) (fun k_ hk_ hs_ => (hk_.2) hs_))
      (case side5 => exact (Kd.V_reads' HO279.out).2.1)
      (case side6 => exact Kd.R_tight rfl HO288.out)
      rintro e w43 ⟨v292, rfl, ho0, hb, hkp⟩
      refine ⟨_, rfl, ?_⟩
      replace BK267 := Aside0.mk (blk_kept BK267.out hkp (fun hs_ => (fun e_ => (Kd.R_ne HO288.out BK267.out (by decide)) e_) hs_))
      replace BK269 := Aside0.mk (blk_kept BK269.out hkp (fun hs_ => (fun e_ => (Kd.R_ne HO288.out BK269.out (by decide)) e_) hs_))
      replace HO274 := Aside0.mk (Kd.V_mono (ok' := fun k_ => some k_ ≠ (.slice Ao40 y283.length co40 : Value).ownBlock ∧ k_ ≠ gb267 ∧ k_ ≠ gb268 ∧ k_ ≠ gb269 ∧ k_ ≠ gb280 ∧ some k_ ≠ (v292 : Value).ownBlock) (Kd.V_keptB (HO274.out) hkp (fun k_ hk_ hs_ => (hk_.2) hs_)) (fun k_ hk_ => ⟨hk_.1.1.2, hk_.1.1.1.1.1, hk_.1.1.1.1.2.1, hk_.1.1.1.1.2.2, hk_.1.1.1.2, fun e_ => Or.elim (ho0.1 k_ e_.symm) (fun hs_ => hk_.2.1 hs_) (fun hn_ => Nat.not_le.2 hk_.2.2 hn_)⟩))
      replace HO279 := Aside0.mk (Kd.V_mono (ok' := fun k_ => some k_ ≠ (.slice Ao40 y283.length co40 : Value).ownBlock ∧ k_ ≠ gb267 ∧ k_ ≠ gb268 ∧ k_ ≠ gb269 ∧ k_ ≠ gb280 ∧ some k_ ≠ (v292 : Value).ownBlock) (Kd.V_keptB (HO279.out) hkp (fun k_ hk_ hs_ => (hk_.2) hs_)) (fun k_ hk_ => ⟨hk_.1.1.2, hk_.1.1.1.1.1, hk_.1.1.1.1.2.1, hk_.1.1.1.1.2.2, hk_.1.1.1.2, fun e_ => Or.elim (ho0.1 k_ e_.symm) (fun hs_ => hk_.2.1 hs_) (fun hn_ => Nat.not_le.2 hk_.2.2 hn_)⟩))
      replace BK280 := Aside0.mk (blk_kept BK280.out hkp (fun hs_ => (fun e_ => (Kd.R_ne HO288.out BK280.out (by decide)) e_) hs_))
      have HO293 := Aside0.mk (Kd.R_mono (ok' := fun k_ => some k_ ≠ (.slice Ao40 y283.length co40 : Value).ownBlock ∧ k_ ≠ gb268) ho0 (fun k_ hk_ => ⟨Or.elim hk_ (fun hs_ => fun e_ => (((HO285.out).1 k_ e_.symm).2) hs_) (fun hn_ => (Kd.fresh' (Kd.R_lt (HO285.out)) k_ hn_)), Or.elim hk_ (fun hs_ => fun e_ => (Kd.R_away HO288.out (fun _ hk => hk.2)) (by rw [← e_]; exact hs_)) (fun hn_ => (Kd.freshB (g := gb268) (o := .cells #[.int .i64 a1_0, .int .i64 a1_1, .int .i64 a1_2, .int .i64 a1_3, .int .i64 a1_4, .int .i64 a1_5] 28 (0, 0)) BK268.out k_ hn_))⟩))
      replace BK268 := Aside0.mk (blk_kept BK268.out hkp (fun hs_ => (fun e_ => (Kd.R_away HO288.out (fun _ hk => hk.2)) e_) hs_))
      replace HO285 := Aside0.mk (Kd.R_mono (ok' := fun k_ => k_ ≠ gb268 ∧ some k_ ≠ (v292 : Value).ownBlock) (Kd.R_keptB (HO285.out) hkp (fun k_ hk_ hs_ => (hk_.2) hs_)) (fun k_ hk_ => ⟨hk_.1.1.2, fun e_ => Or.elim (ho0.1 k_ e_.symm) (fun hs_ => hk_.2.1 hs_) (fun hn_ => Nat.not_le.2 hk_.2.2 hn_)⟩))
      replace HB := Aside0.mk (hb)
      clear HO288
      (try clear hb)
      (try clear hkp)
      (try clear ho0)
      obtain ⟨Ao46, co46, eo46⟩ := Kd.R_slice HO293.out
      (first | subst eo46 | (injection eo46 with f1_ f2_ f3_; have f4_ := f1_.symm; have f5_ := f3_.symm; clear f1_ f2_ f3_; subst f4_; subst f5_))
      refine hK.out _ _ ⟨(blk_cell BK280.out 0).trans rfl, (blk_cell BK280.out 1).trans rfl, (blk_cell BK280.out 2).trans rfl, (blk_cell BK280.out 3).trans rfl, (blk_cell BK268.out 0).trans rfl, (blk_cell BK268.out 1).trans rfl, (blk_cell BK268.out 2).trans rfl, (blk_cell BK268.out 3).trans rfl, (blk_cell BK268.out 4).trans rfl, (blk_cell BK268.out 5).trans rfl⟩ (fun hHeld => ?_)
      clear hK K
      refine norm_ (a' := ?_) ?_ ?_
      rotate_left
      ·show Act.put _ (some 60) _ = _
       simp only [Act.put, List.setIfInBounds_toArray, List.set_cons_zero, List.set_cons_succ, i64_w, i32_w]
       rfl
      refine one_ (i := 8) (N := none) (dn_ 9 10) rfl rfl (one_of HT_.out (by kernel_rfl)) (by decide) (fun K hK => ?_)
      have hs44 : w43.cell? ⟨gb269, 0, none⟩ = some (.int .i64 0) := (blk_cell BK269.out 0).trans rfl
      have hfs44 := blk_frozen BK269.out 0
      have hns44_0 := NB267_269.out
      have hns44_1 := NB268_269.out
      have hns44_3 := NB280_269.out
      have hms44_0 := NB269_267.out
      have hms44_1 := NB269_268.out
      have hms44_3 := NB269_280.out
      have hs45 : w43.cell? ⟨gb269, 1, none⟩ = some (.int .i64 0) := (blk_cell BK269.out 1).trans rfl
      have hfs45 := blk_frozen BK269.out 1
      have hns45_0 := NB267_269.out
      have hns45_1 := NB268_269.out
      have hns45_3 := NB280_269.out
      have hms45_0 := NB269_267.out
      have hms45_1 := NB269_268.out
      have hms45_3 := NB269_280.out
      have hs47 : w43.cell? ⟨gb269, 2, none⟩ = some (.slice none 0 0) := (blk_cell BK269.out 2).trans rfl
      have hfs47 := blk_frozen BK269.out 2
      have hns47_0 := NB267_269.out
      have hns47_1 := NB268_269.out
      have hns47_3 := NB280_269.out
      have hms47_0 := NB269_267.out
      have hms47_1 := NB269_268.out
      have hms47_3 := NB269_280.out
      refine skip_ (w1 := ?_) (by rfl) rfl ?_ ?_
      rotate_left
      ·go_simp
       rfl
      refine hK.out _ _ ⟨((cell_far (p := ⟨gb269, _, none⟩) NB280_269.out _).trans (((cell_far (p := ⟨gb269, _, none⟩) NB280_269.out _).trans (((cell_far (p := ⟨gb269, _, none⟩) NB280_269.out _).trans (hHeld.1)))))), ((cell_far (p := ⟨gb269, _, none⟩) NB280_269.out _).trans (((cell_far (p := ⟨gb269, _, none⟩) NB280_269.out _).trans (((cell_far (p := ⟨gb269, _, none⟩) NB280_269.out _).trans (hHeld.2.1)))))), ((cell_far (p := ⟨gb269, _, none⟩) NB280_269.out _).trans (((cell_far (p := ⟨gb269, _, none⟩) NB280_269.out _).trans (((cell_far (p := ⟨gb269, _, none⟩) NB280_269.out _).trans (hHeld.2.2.1)))))), ((cell_far (p := ⟨gb269, _, none⟩) NB280_269.out _).trans (((cell_far (p := ⟨gb269, _, none⟩) NB280_269.out _).trans (((cell_far (p := ⟨gb269, _, none⟩) NB280_269.out _).trans (hHeld.2.2.2.1)))))), ((cell_far (p := ⟨gb269, _, none⟩) NB268_269.out _).trans (((cell_far (p := ⟨gb269, _, none⟩) NB268_269.out _).trans (((cell_far (p := ⟨gb269, _, none⟩) NB268_269.out _).trans (hHeld.2.2.2.2.1)))))), ((cell_far (p := ⟨gb269, _, none⟩) NB268_269.out _).trans (((cell_far (p := ⟨gb269, _, none⟩) NB268_269.out _).trans (((cell_far (p := ⟨gb269, _, none⟩) NB268_269.out _).trans (hHeld.2.2.2.2.2.1)))))), ((cell_far (p := ⟨gb269, _, none⟩) NB268_269.out _).trans (((cell_far (p := ⟨gb269, _, none⟩) NB268_269.out _).trans (((cell_far (p := ⟨gb269, _, none⟩) NB268_269.out _).trans (hHeld.2.2.2.2.2.2.1)))))), ((cell_far (p := ⟨gb269, _, none⟩) NB268_269.out _).trans (((cell_far (p := ⟨gb269, _, none⟩) NB268_269.out _).trans (((cell_far (p := ⟨gb269, _, none⟩) NB268_269.out _).trans (hHeld.2.2.2.2.2.2.2.1)))))), ((cell_far (p := ⟨gb269, _, none⟩) NB268_269.out _).trans (((cell_far (p := ⟨gb269, _, none⟩) NB268_269.out _).trans (((cell_far (p := ⟨gb269, _, none⟩) NB268_269.out _).trans (hHeld.2.2.2.2.2.2.2.2.1)))))), ((cell_far (p := ⟨gb269, _, none⟩) NB268_269.out _).trans (((cell_far (p := ⟨gb269, _, none⟩) NB268_269.out _).trans (((cell_far (p := ⟨gb269, _, none⟩) NB268_269.out _).trans (hHeld.2.2.2.2.2.2.2.2.2))))))⟩ (fun hHeld => ?_)
      clear hK K
      refine pure_ (i := 9) (N := some 5) (v := ?_) (a' := ?_) #[true, true, true, true, true, true, true, true, true, true] rfl rfl (any_of HT_.out (by kernel_rfl)) (fun _ _ _ h => h) (Or.inl ⟨by rfl, ?_⟩) ?_ ?_
      rotate_left
      ·intro w'
       go_simp
       with_reducible rfl
      rotate_left; (simp only [Act.put, List.setIfInBounds_toArray, List.set_cons_zero, List.set_cons_succ, i64_w, i32_w]; rfl)
      refine done_ (done_of HT_.out (by kernel_rfl)) ?_
      try go_wp2
      refine bodyPost_ret (results_ct rfl _ _ gb269 24 #[.int .i64 t289, .int .i64 t290, .slice Ao46 t291.length co46] (0, 0) _ rfl (by refine blk_put (cs := #[.int .i64 t289, .int .i64 t290, .slice none 0 0]) ?_ 2 _ rfl; refine blk_put (cs := #[.int .i64 t289, .int .i64 0, .slice none 0 0]) ?_ 1 _ rfl; refine blk_put (cs := #[.int .i64 0, .int .i64 0, .slice none 0 0]) ?_ 0 _ rfl; exact BK269.out) Try.underlying24 rfl (by kernel_rfl)) rfl ?_
      exact ⟨_, by first | rfl | (simp [errW_none, errW_some] <;> rfl) | (simp [*, errW_none, errW_some] <;> rfl), by (with_reducible repeat (first | apply Kd.R_alloc | apply Kd.R_drewN | apply Kd.R_drew)); exact Kd.R_mono (rf3 (Kd.R_types HO293.out BK269.out (by decide)) (fun _ hk => hk.2) (.int .i64 t289) (.int .i64 t290) (.slice Ao46 t291.length co46)) (fun _ hk => trivial), by repeat (with_reducible first | exact HB.out | apply pw_below_drewN | apply below_drew1 | refine below_set ?_ (Aside0.out (by assumption)))⟩
  ·replace c6 := Bool.eq_false_iff.mpr c6
   subst c6
   rw [if_neg (show ¬ (false = true) by decide)] at H; try dsimp only at H
   exact absurd H (by simp)
 ·replace c4 := Bool.eq_false_iff.mpr c4
  subst c4
  rw [if_neg (show ¬ (false = true) by decide)] at H; try dsimp only at H
  exact absurd H (by simp)

/-! ### api_Alarm_58: function 58 -/
def ix_Alarm (p : S28 → Bool) (l : List S28) : Int := match l.findIdx? p with | some i => (i : Int) | none => -1
theorem ix_Alarm_hit (p : S28 → Bool) (l : List S28) (i : Nat) (hi : i < l.length) (h : p (rd_T28 l (i : Int)) = true) (hn : ∀ j, j < i → p (rd_T28 l (j : Int)) = false) : ix_Alarm p l = (i : Int) := by
  have e : l.findIdx? p = some i := by
    rw [List.findIdx?_eq_some_iff_getElem]
    refine ⟨hi, ?_, fun j hj => ?_⟩
    · simpa [rd_T28, List.getD_eq_getElem?_getD, List.getElem?_eq_getElem hi] using h
    · have := hn j hj
      simpa [rd_T28, List.getD_eq_getElem?_getD, List.getElem?_eq_getElem (show j < l.length by omega)] using this
  unfold ix_Alarm; rw [e]
theorem ix_Alarm_miss (p : S28 → Bool) (l : List S28) (hn : ∀ j, j < l.length → p (rd_T28 l (j : Int)) = false) : ix_Alarm p l = -1 := by
  have e : l.findIdx? p = none := by
    rw [List.findIdx?_eq_none_iff]
    intro x hx
    obtain ⟨j, hj, rfl⟩ := List.mem_iff_getElem.1 hx
    have := hn j hj
    simpa [rd_T28, List.getD_eq_getElem?_getD, List.getElem?_eq_getElem hj] using this
  unfold ix_Alarm; rw [e]
set_option maxHeartbeats 8000000 in
set_option maxRecDepth 100000 in
theorem ixfunc_Alarm.calls (p : S28 → Bool) (g : Nat) (lb : Array Value) (eg : ∀ args w, (callFunc g args).run Try.prog w = .ok (.enter g args) w) (A0 : Option Addr) (c0 : Nat) (l0 : List S28) (w : World)
    (hp : ∀ (W : World) (x : S28), Below w.heap.size w W → Calls Try.prog g (#[.agg #[.int .i64 x.f0.f0, .int .i64 x.f0.f1, .int .i64 x.f1, .int .i64 x.f2, .int .i64 x.f3, .int .i64 x.f4]] ++ lb) W fun e w' => e = .returned (.bool (p x)) ∧ Below w.heap.size w w')
    (hr0 : Kd.C k28 w A0 l0.length l0) :
    Calls Try.prog 58 #[.slice A0 l0.length c0, .func (.func g) #[] lb] w fun e w' => e = .returned (.int .i64 (ix_Alarm p l0)) ∧ Below w.heap.size w w' := by
  have hu_ := Try.underlying28
  have hbig := hr0.2.1
  have HR0 := Aside0.mk hr0
  have HP := Aside0.mk hp
  clear hr0 hp
  go_enter Try.func58, Try.ntmps58
  go_wp2
  go_loopg [5, 8] l0.length (fun gg _ s8 wr => ∃ kk : Nat, kk ≤ l0.length ∧ l0.length - kk ≤ gg ∧ s8 = .int .i64 kk ∧ Aside0 (Below w.heap.size w wr) ∧ Aside0 (∀ j, j < kk → p (rd_T28 l0 (j : Int)) = false))
  case atStart => exact ⟨0, Nat.zero_le _, by omega, rfl, ⟨Below.refl _ w⟩, ⟨fun j hj => absurd hj (Nat.not_lt_zero _)⟩⟩
  case round =>
    obtain ⟨kk, hkk, hg, rfl, BW, A⟩ := hrel
    by_cases hlt : kk < l0.length
    · have hltz : (kk : Int) < (l0.length : Int) := by omega
      obtain ⟨ad, e0, hx0, hx1, hx2, hx3, hx4, hx5⟩ := at_T28 (Kd.C_below HR0.out BW.out) (kk : Int) (by omega) hltz
      cases e0
      simp only [Int.toNat_natCast] at hx0 hx1 hx2 hx3 hx4 hx5
      have hcall := HP.out wr (rd_T28 l0 (kk : Int))  BW.out
      generalize hy_ : rd_T28 l0 (kk : Int) = y_ at hcall hx0 hx1 hx2 hx3 hx4 hx5
      have Y := Aside0.mk hy_
      clear hy_
      cases hq : p y_ with
      | true =>
        rw [hq] at hcall
        have Q := Aside0.mk hq
        clear hq
        go_wp2_with (go_at_fn g; refine hcall.mono ?_; rintro e w' ⟨rfl, hb'⟩)
        go_ret
        exact ⟨by rw [ix_Alarm_hit p l0 kk hlt (by rw [Y.out]; exact Q.out) A.out]; rfl, hb'⟩
      | false =>
        rw [hq] at hcall
        have Q := Aside0.mk hq
        clear hq
        go_wp2_with (go_at_fn g; refine hcall.mono ?_; rintro e w' ⟨rfl, hb'⟩)
        go_roundg (l0.length - (kk + 1))
        case measure => omega
        case rel =>
          refine ⟨kk + 1, by omega, by omega, by go_num, ⟨hb'⟩, ⟨fun j hj => ?_⟩⟩
          by_cases e : j = kk
          · subst e; rw [Y.out]; exact Q.out
          · exact A.out j (by omega)
    · have hltz : ¬ (kk : Int) < (l0.length : Int) := by omega
      go_wp2
      go_ret
      exact ⟨by rw [ix_Alarm_miss p l0 (fun j hj => A.out j (by omega))]; rfl, BW.out⟩

/-! ### board_Get: function 21 -/
def board_Get.f (a0_0 : Int) (a0_1 : Int) (l0_2 : List S28) (a1_0 : Int) (a1_1 : Int) : Option (Int × Int × Int × Int × Int × Int × Bool) := if ix_Alarm (fun x => decide (x.f0.f0 = a1_0) && decide (x.f0.f1 = a1_1)) l0_2 < 0 then some (0, 0, 0, 0, 0, 0, false) else some ((rd_T28 l0_2 (ix_Alarm (fun x => decide (x.f0.f0 = a1_0) && decide (x.f0.f1 = a1_1)) l0_2)).f0.f0, (rd_T28 l0_2 (ix_Alarm (fun x => decide (x.f0.f0 = a1_0) && decide (x.f0.f1 = a1_1)) l0_2)).f0.f1, (rd_T28 l0_2 (ix_Alarm (fun x => decide (x.f0.f0 = a1_0) && decide (x.f0.f1 = a1_1)) l0_2)).f1, (rd_T28 l0_2 (ix_Alarm (fun x => decide (x.f0.f0 = a1_0) && decide (x.f0.f1 = a1_1)) l0_2)).f2, (rd_T28 l0_2 (ix_Alarm (fun x => decide (x.f0.f0 = a1_0) && decide (x.f0.f1 = a1_1)) l0_2)).f3, (rd_T28 l0_2 (ix_Alarm (fun x => decide (x.f0.f0 = a1_0) && decide (x.f0.f1 = a1_1)) l0_2)).f4, true)
theorem ix_Alarm_lt (p : S28 → Bool) (l : List S28) (h : ¬ ix_Alarm p l < 0) : ix_Alarm p l < (l.length : Int) := by
  unfold ix_Alarm at h ⊢
  cases e : l.findIdx? p with
  | none => rw [e] at h; exact absurd h (by decide)
  | some i =>
    rw [List.findIdx?_eq_some_iff_getElem] at e
    obtain ⟨hi, _⟩ := e
    show (i : Int) < _
    omega
theorem board_Get.one (s0 s1 : Int) (B : Nat) (w : World) (hB : B < w.heap.size) (hcell0 : w.cell? ⟨B, 0, none⟩ = some (.int .i64 s0)) (hcell1 : w.cell? ⟨B, 1, none⟩ = some (.int .i64 s1)) (W : World) (x : S28) (hb : Below w.heap.size w W) :
    Calls Try.prog 59 (#[.agg #[.int .i64 x.f0.f0, .int .i64 x.f0.f1, .int .i64 x.f1, .int .i64 x.f2, .int .i64 x.f3, .int .i64 x.f4]] ++ #[.pointer (some ⟨B, 0, none⟩)]) W fun e w' => e = .returned (.bool (decide (x.f0.f0 = s0) && decide (x.f0.f1 = s1))) ∧ Below w.heap.size w w' := by
  have hc0 : W.cell? ⟨B, 0, none⟩ = some (.int .i64 s0) := (hb.cell (p := ⟨B, 0, none⟩) hB).trans hcell0
  have hc1 : W.cell? ⟨B, 1, none⟩ = some (.int .i64 s1) := (hb.cell (p := ⟨B, 1, none⟩) hB).trans hcell1
  have hBW : B < W.heap.size := Nat.lt_of_lt_of_le hB hb.size
  have hne : B ≠ W.heap.size := by omega
  obtain ⟨⟨x0, x1⟩, x2, x3, x4, x5⟩ := x
  show Calls Try.prog 59 #[.agg #[.int .i64 x0, .int .i64 x1, .int .i64 x2, .int .i64 x3, .int .i64 x4, .int .i64 x5], .pointer (some ⟨B, 0, none⟩)] W _
  clear hcell0 hcell1
  by_cases h0 : x0 = s0
  · by_cases h1 : x1 = s1
    · subst h0; subst h1
      go_enter Try.func59, Try.ntmps59
      go_wp2
      all_goals (go_ret; exact ⟨by first | (simp_all; done) | (simp_all; rfl), hb.alloc hb.size _⟩)
    · have d1 : decide (x1 = s1) = false := decide_eq_false h1
      have d2 : (x1 == s1) = false := by rw [beq_eq_false_iff_ne]; exact h1
      subst h0
      go_enter Try.func59, Try.ntmps59
      go_wp2
      all_goals (go_ret; exact ⟨by first | (simp_all; done) | (simp_all; rfl), hb.alloc hb.size _⟩)
  · have d1 : decide (x0 = s0) = false := decide_eq_false h0
    have d2 : (x0 == s0) = false := by rw [beq_eq_false_iff_ne]; exact h0
    go_enter Try.func59, Try.ntmps59
    go_wp2
    all_goals (go_ret; exact ⟨by first | (simp_all; done) | (simp_all; rfl), hb.alloc hb.size _⟩)
set_option maxHeartbeats 8000000 in
set_option maxRecDepth 100000 in
theorem board_Get.calls (a0_0 : Int) (a0_1 : Int) (A0_2 : Option Addr) (c0_2 : Nat) (l0_2 : List S28) (a1_0 : Int) (a1_1 : Int) (r1 : Int) (r2 : Int) (r3 : Int) (r4 : Int) (r5 : Int) (r6 : Int) (r7 : Bool) (w : World) (hr0_2 : Kd.C k28 w A0_2 l0_2.length l0_2) (hc0_2 : l0_2.length ≤ c0_2) (h : board_Get.f a0_0 a0_1 l0_2 a1_0 a1_1 = some (r1, r2, r3, r4, r5, r6, r7)) :
    Calls Try.prog 21 #[.agg #[.int .i64 a0_0, .int .i64 a0_1, .slice A0_2 l0_2.length c0_2], .agg #[.int .i64 a1_0, .int .i64 a1_1]] w fun e w' => e = .returned (.tuple #[.agg #[.int .i64 r1, .int .i64 r2, .int .i64 r3, .int .i64 r4, .int .i64 r5, .int .i64 r6], .bool r7]) ∧ Below w.heap.size w w' := by
  have hu24 := Try.underlying24
  have hu26 := Try.underlying26
  have hu28 := Try.underlying28
  have eg : ∀ args w, (callFunc 59 args).run Try.prog w = .ok (.enter 59 args) w := enters_of Try.func59 (by kernel_rfl) rfl
  have HR := Aside0.mk hr0_2
  have HC := Aside0.mk hc0_2
  clear hr0_2 hc0_2
  have HB := Aside0.mk (Below.refl w.heap.size w)
  unfold board_Get.f at h
  generalize hq : ix_Alarm (fun x => decide (x.f0.f0 = a1_0) && decide (x.f0.f1 = a1_1)) l0_2 = q at h
  have Q := Aside0.mk hq
  by_cases c : q < 0
  · rw [if_pos c] at h
    have c0 : decide (q < 0) = true := decide_eq_true c
    simp only [Option.some.injEq, Prod.mk.injEq] at h
    obtain ⟨rfl, rfl, rfl, rfl, rfl, rfl, rfl⟩ := h
    clear c hq
    go_enter Try.func21, Try.ntmps21
    go_wp2_with (first | ((with_reducible refine gate_dst (N := 2) rfl ?_); refine box_event ?hg (N := 2) ?hd (cs := #[.int .i64 a0_0, .int .i64 a0_1, .slice A0_2 l0_2.length c0_2]) (t := 24) ?hr ?_; (case hd => rfl); (case hg => rfl); (case hr => first | (go_simp; done) | (go_simp; rfl)); intro gbB hg w3 hbox hb; have n0_ := Aside0.mk (below_step HB.out hb); have n1_ := Aside0.mk hbox; have n2_ := Aside0.mk ((by rw [hg]; exact (below_size HB.out)) : w.heap.size ≤ gbB); clear HB; have HB := n0_; have BKB := n1_; have GEB := n2_; clear n0_ n1_ n2_; clear hb hbox hg) | ((with_reducible refine gate_dst (N := 3) rfl ?_); refine box_event ?hg (N := 3) ?hd (cs := #[.int .i64 a1_0, .int .i64 a1_1]) (t := 26) ?hr ?_; (case hd => rfl); (case hg => rfl); (case hr => first | (go_simp; done) | (go_simp; rfl)); intro gbS hg w4 hbox hb; have n0_ := Aside0.mk (below_step HB.out hb); have n1_ := Aside0.mk hbox; have n2_ := Aside0.mk ((by rw [hg]; exact (below_size HB.out)) : w.heap.size ≤ gbS); have m0_ := Aside0.mk (blk_below BKB.out hb); clear HB; clear BKB; have HB := n0_; have BKS := n1_; have GES := n2_; have BKB := m0_; clear n0_ n1_ n2_ m0_; clear hb hbox hg) | ((with_reducible refine gate_dst (N := 4) rfl ?_); refine box_event ?hg (N := 4) ?hd (cs := #[.int .i64 0, .int .i64 0, .int .i64 0, .int .i64 0, .int .i64 0, .int .i64 0]) (t := 28) ?hr ?_; (case hd => rfl); (case hg => rfl); (case hr => first | (go_simp; done) | (go_simp; rfl)); intro gbZ hg w5 hbox hb; have n0_ := Aside0.mk (below_step HB.out hb); have n1_ := Aside0.mk hbox; have n2_ := Aside0.mk ((by rw [hg]; exact (below_size HB.out)) : w.heap.size ≤ gbZ); have m0_ := Aside0.mk (blk_below BKB.out hb); have m1_ := Aside0.mk (blk_below BKS.out hb); clear HB; clear BKB; clear BKS; have HB := n0_; have BKZ := n1_; have GEZ := n2_; have BKB := m0_; have BKS := m1_; clear n0_ n1_ n2_ m0_ m1_; clear hb hbox hg; have hczB_0 : w5.cell? ⟨gbB, 0, none⟩ = some (.int .i64 a0_0) := (blk_cell BKB.out 0).trans rfl; have hczB_1 : w5.cell? ⟨gbB, 1, none⟩ = some (.int .i64 a0_1) := (blk_cell BKB.out 1).trans rfl; have hczB_2 : w5.cell? ⟨gbB, 2, none⟩ = some (.slice A0_2 l0_2.length c0_2) := (blk_cell BKB.out 2).trans rfl; have HCON := Aside0.mk (ixfunc_Alarm.calls (fun x => decide (x.f0.f0 = a1_0) && decide (x.f0.f1 = a1_1)) 59 #[.pointer (some ⟨gbS, 0, none⟩)] eg A0_2 c0_2 l0_2 w5 (fun W x hb => board_Get.one a1_0 a1_1 gbS w5 (blk_lt BKS.out) ((blk_cell BKS.out 0).trans rfl) ((blk_cell BKS.out 1).trans rfl) W x hb) (Kd.C_below HR.out HB.out))) | (go_at_call 58; refine HCON.out.mono ?_; rintro e w6 ⟨rfl, hb⟩; rw [Q.out]; have n0_ := Aside0.mk (below_step HB.out hb); have m0_ := Aside0.mk (blk_below BKB.out hb); have m1_ := Aside0.mk (blk_below BKZ.out hb); clear HCON HB BKB BKZ; have HB := n0_; have BKB := m0_; have BKZ := m1_; clear n0_ m0_ m1_ hb; have hczZ_0 : w6.cell? ⟨gbZ, 0, none⟩ = some (.int .i64 0) := (blk_cell BKZ.out 0).trans rfl; have hczZ_1 : w6.cell? ⟨gbZ, 1, none⟩ = some (.int .i64 0) := (blk_cell BKZ.out 1).trans rfl; have hczZ_2 : w6.cell? ⟨gbZ, 2, none⟩ = some (.int .i64 0) := (blk_cell BKZ.out 2).trans rfl; have hczZ_3 : w6.cell? ⟨gbZ, 3, none⟩ = some (.int .i64 0) := (blk_cell BKZ.out 3).trans rfl; have hczZ_4 : w6.cell? ⟨gbZ, 4, none⟩ = some (.int .i64 0) := (blk_cell BKZ.out 4).trans rfl; have hczZ_5 : w6.cell? ⟨gbZ, 5, none⟩ = some (.int .i64 0) := (blk_cell BKZ.out 5).trans rfl; have hfzZ_0 := blk_frozen BKZ.out 0; have hfzZ_1 := blk_frozen BKZ.out 1; have hfzZ_2 := blk_frozen BKZ.out 2; have hfzZ_3 := blk_frozen BKZ.out 3; have hfzZ_4 := blk_frozen BKZ.out 4; have hfzZ_5 := blk_frozen BKZ.out 5))
    refine bodyPost_ret (results_ct rfl _ _ gbZ 28 #[.int .i64 0, .int .i64 0, .int .i64 0, .int .i64 0, .int .i64 0, .int .i64 0] (0, 0) _ rfl (by refine blk_put (cs := #[.int .i64 0, .int .i64 0, .int .i64 0, .int .i64 0, .int .i64 0, .int .i64 0]) ?_ 5 _ rfl; refine blk_put (cs := #[.int .i64 0, .int .i64 0, .int .i64 0, .int .i64 0, .int .i64 0, .int .i64 0]) ?_ 4 _ rfl; refine blk_put (cs := #[.int .i64 0, .int .i64 0, .int .i64 0, .int .i64 0, .int .i64 0, .int .i64 0]) ?_ 3 _ rfl; refine blk_put (cs := #[.int .i64 0, .int .i64 0, .int .i64 0, .int .i64 0, .int .i64 0, .int .i64 0]) ?_ 2 _ rfl; refine blk_put (cs := #[.int .i64 0, .int .i64 0, .int .i64 0, .int .i64 0, .int .i64 0, .int .i64 0]) ?_ 1 _ rfl; refine blk_put (cs := #[.int .i64 0, .int .i64 0, .int .i64 0, .int .i64 0, .int .i64 0, .int .i64 0]) ?_ 0 _ rfl; exact BKZ.out) Try.underlying28 rfl (by kernel_rfl)) rfl ?_
    exact ⟨by first | rfl | (simp; done) | (simp [*]; done), by repeat (with_reducible first | exact HB.out | refine below_set ?_ GEZ.out)⟩
  · rw [if_neg c] at h
    have c0 : decide (q < 0) = false := decide_eq_false c
    have c1 : decide (0 ≤ q) = true := decide_eq_true (by omega)
    have hlt : q < (l0_2.length : Int) := by rw [← hq]; exact ix_Alarm_lt _ _ (by rw [hq]; exact c)
    have c2 : decide (q < (l0_2.length : Int)) = true := decide_eq_true hlt
    simp only [Option.some.injEq, Prod.mk.injEq] at h
    obtain ⟨rfl, rfl, rfl, rfl, rfl, rfl, rfl⟩ := h
    have QP := Aside0.mk (show 0 ≤ q by omega)
    have QL := Aside0.mk hlt
    clear c hq hlt
    go_enter Try.func21, Try.ntmps21
    go_wp2_with (first | ((with_reducible refine gate_dst (N := 2) rfl ?_); refine box_event ?hg (N := 2) ?hd (cs := #[.int .i64 a0_0, .int .i64 a0_1, .slice A0_2 l0_2.length c0_2]) (t := 24) ?hr ?_; (case hd => rfl); (case hg => rfl); (case hr => first | (go_simp; done) | (go_simp; rfl)); intro gbB hg w3 hbox hb; have n0_ := Aside0.mk (below_step HB.out hb); have n1_ := Aside0.mk hbox; have n2_ := Aside0.mk ((by rw [hg]; exact (below_size HB.out)) : w.heap.size ≤ gbB); clear HB; have HB := n0_; have BKB := n1_; have GEB := n2_; clear n0_ n1_ n2_; clear hb hbox hg) | ((with_reducible refine gate_dst (N := 3) rfl ?_); refine box_event ?hg (N := 3) ?hd (cs := #[.int .i64 a1_0, .int .i64 a1_1]) (t := 26) ?hr ?_; (case hd => rfl); (case hg => rfl); (case hr => first | (go_simp; done) | (go_simp; rfl)); intro gbS hg w4 hbox hb; have n0_ := Aside0.mk (below_step HB.out hb); have n1_ := Aside0.mk hbox; have n2_ := Aside0.mk ((by rw [hg]; exact (below_size HB.out)) : w.heap.size ≤ gbS); have m0_ := Aside0.mk (blk_below BKB.out hb); clear HB; clear BKB; have HB := n0_; have BKS := n1_; have GES := n2_; have BKB := m0_; clear n0_ n1_ n2_ m0_; clear hb hbox hg) | ((with_reducible refine gate_dst (N := 4) rfl ?_); refine box_event ?hg (N := 4) ?hd (cs := #[.int .i64 0, .int .i64 0, .int .i64 0, .int .i64 0, .int .i64 0, .int .i64 0]) (t := 28) ?hr ?_; (case hd => rfl); (case hg => rfl); (case hr => first | (go_simp; done) | (go_simp; rfl)); intro gbZ hg w5 hbox hb; have n0_ := Aside0.mk (below_step HB.out hb); have n1_ := Aside0.mk hbox; have n2_ := Aside0.mk ((by rw [hg]; exact (below_size HB.out)) : w.heap.size ≤ gbZ); have m0_ := Aside0.mk (blk_below BKB.out hb); have m1_ := Aside0.mk (blk_below BKS.out hb); clear HB; clear BKB; clear BKS; have HB := n0_; have BKZ := n1_; have GEZ := n2_; have BKB := m0_; have BKS := m1_; clear n0_ n1_ n2_ m0_ m1_; clear hb hbox hg; have hczB_0 : w5.cell? ⟨gbB, 0, none⟩ = some (.int .i64 a0_0) := (blk_cell BKB.out 0).trans rfl; have hczB_1 : w5.cell? ⟨gbB, 1, none⟩ = some (.int .i64 a0_1) := (blk_cell BKB.out 1).trans rfl; have hczB_2 : w5.cell? ⟨gbB, 2, none⟩ = some (.slice A0_2 l0_2.length c0_2) := (blk_cell BKB.out 2).trans rfl; have HCON := Aside0.mk (ixfunc_Alarm.calls (fun x => decide (x.f0.f0 = a1_0) && decide (x.f0.f1 = a1_1)) 59 #[.pointer (some ⟨gbS, 0, none⟩)] eg A0_2 c0_2 l0_2 w5 (fun W x hb => board_Get.one a1_0 a1_1 gbS w5 (blk_lt BKS.out) ((blk_cell BKS.out 0).trans rfl) ((blk_cell BKS.out 1).trans rfl) W x hb) (Kd.C_below HR.out HB.out))) | (go_at_call 58; refine HCON.out.mono ?_; rintro e w6 ⟨rfl, hb⟩; rw [Q.out]; have n0_ := Aside0.mk (below_step HB.out hb); have m0_ := Aside0.mk (blk_below BKB.out hb); have m1_ := Aside0.mk (blk_below BKZ.out hb); clear HCON HB BKB BKZ; have HB := n0_; have BKB := m0_; have BKZ := m1_; clear n0_ m0_ m1_ hb; have hczB_0 : w6.cell? ⟨gbB, 0, none⟩ = some (.int .i64 a0_0) := (blk_cell BKB.out 0).trans rfl; have hczB_1 : w6.cell? ⟨gbB, 1, none⟩ = some (.int .i64 a0_1) := (blk_cell BKB.out 1).trans rfl; have hczB_2 : w6.cell? ⟨gbB, 2, none⟩ = some (.slice A0_2 l0_2.length c0_2) := (blk_cell BKB.out 2).trans rfl; have hczZ_0 : w6.cell? ⟨gbZ, 0, none⟩ = some (.int .i64 0) := (blk_cell BKZ.out 0).trans rfl; have hczZ_1 : w6.cell? ⟨gbZ, 1, none⟩ = some (.int .i64 0) := (blk_cell BKZ.out 1).trans rfl; have hczZ_2 : w6.cell? ⟨gbZ, 2, none⟩ = some (.int .i64 0) := (blk_cell BKZ.out 2).trans rfl; have hczZ_3 : w6.cell? ⟨gbZ, 3, none⟩ = some (.int .i64 0) := (blk_cell BKZ.out 3).trans rfl; have hczZ_4 : w6.cell? ⟨gbZ, 4, none⟩ = some (.int .i64 0) := (blk_cell BKZ.out 4).trans rfl; have hczZ_5 : w6.cell? ⟨gbZ, 5, none⟩ = some (.int .i64 0) := (blk_cell BKZ.out 5).trans rfl; have hfzZ_0 := blk_frozen BKZ.out 0; have hfzZ_1 := blk_frozen BKZ.out 1; have hfzZ_2 := blk_frozen BKZ.out 2; have hfzZ_3 := blk_frozen BKZ.out 3; have hfzZ_4 := blk_frozen BKZ.out 4; have hfzZ_5 := blk_frozen BKZ.out 5; obtain ⟨ad, e0, hx0, hx1, hx2, hx3, hx4, hx5⟩ := at_T28 (Kd.C_below HR.out HB.out) q QP.out QL.out; cases e0; have p_ := eq_true QP.out; have q_ := eq_true QL.out))
    refine bodyPost_ret (results_ct rfl _ _ gbZ 28 #[.int .i64 (rd_T28 l0_2 q).f0.f0, .int .i64 (rd_T28 l0_2 q).f0.f1, .int .i64 (rd_T28 l0_2 q).f1, .int .i64 (rd_T28 l0_2 q).f2, .int .i64 (rd_T28 l0_2 q).f3, .int .i64 (rd_T28 l0_2 q).f4] (0, 0) _ rfl (by refine blk_put (cs := #[.int .i64 (rd_T28 l0_2 q).f0.f0, .int .i64 (rd_T28 l0_2 q).f0.f1, .int .i64 (rd_T28 l0_2 q).f1, .int .i64 (rd_T28 l0_2 q).f2, .int .i64 (rd_T28 l0_2 q).f3, .int .i64 0]) ?_ 5 _ rfl; refine blk_put (cs := #[.int .i64 (rd_T28 l0_2 q).f0.f0, .int .i64 (rd_T28 l0_2 q).f0.f1, .int .i64 (rd_T28 l0_2 q).f1, .int .i64 (rd_T28 l0_2 q).f2, .int .i64 0, .int .i64 0]) ?_ 4 _ rfl; refine blk_put (cs := #[.int .i64 (rd_T28 l0_2 q).f0.f0, .int .i64 (rd_T28 l0_2 q).f0.f1, .int .i64 (rd_T28 l0_2 q).f1, .int .i64 0, .int .i64 0, .int .i64 0]) ?_ 3 _ rfl; refine blk_put (cs := #[.int .i64 (rd_T28 l0_2 q).f0.f0, .int .i64 (rd_T28 l0_2 q).f0.f1, .int .i64 0, .int .i64 0, .int .i64 0, .int .i64 0]) ?_ 2 _ rfl; refine blk_put (cs := #[.int .i64 (rd_T28 l0_2 q).f0.f0, .int .i64 0, .int .i64 0, .int .i64 0, .int .i64 0, .int .i64 0]) ?_ 1 _ rfl; refine blk_put (cs := #[.int .i64 0, .int .i64 0, .int .i64 0, .int .i64 0, .int .i64 0, .int .i64 0]) ?_ 0 _ rfl; exact BKZ.out) Try.underlying28 rfl (by kernel_rfl)) rfl ?_
    exact ⟨by first | rfl | (simp; done) | (simp [*]; done), by repeat (with_reducible first | exact HB.out | refine below_set ?_ GEZ.out)⟩

/-! ### due_At: function 41 -/
theorem due_At.fld (x0 x1 x2 x3 x4 x5 : Int) (W : World) : (Instr.field 28 (.agg #[.int .i64 x0, .int .i64 x1, .int .i64 x2, .int .i64 x3, .int .i64 x4, .int .i64 x5]) 1).run Try.prog W = .ok (.int .i64 x2) W := by kernel_rfl
def due_At.f (k : Nat) (a0_0 a0_1 : Int) (l0_2 : List S28) (a1_0 a1_1 a2 : Int) : Option (Int × Bool) := (board_Get.f a0_0 a0_1 l0_2 a1_0 a1_1).bind fun g => if g.2.2.2.2.2.2 = true then ((alarm_Pass.f k g.1 g.2.1 g.2.2.1 g.2.2.2.1 g.2.2.2.2.1 g.2.2.2.2.2.1 a2).bind fun p => some (p.2.2.1, true)) else some (0, false)
theorem due_At.e1 (k : Nat) (a0_0 a0_1 : Int) (A0_2 : Option Addr) (c0_2 : Nat) (l0_2 : List S28) (a1_0 a1_1 a2 : Int) (t1 t2 t3 t4 t5 t6 : Int) (w : World) (hr0_2 : Kd.C k28 w A0_2 l0_2.length l0_2) (hc0_2 : l0_2.length ≤ c0_2) (E0 : board_Get.f a0_0 a0_1 l0_2 a1_0 a1_1 = some (t1, t2, t3, t4, t5, t6, false)) :
    Calls Try.prog 41 #[.agg #[.int .i64 a0_0, .int .i64 a0_1, .slice A0_2 l0_2.length c0_2], .agg #[.int .i64 a1_0, .int .i64 a1_1], .int .i64 a2] w fun e w' => e = .returned (.tuple #[.int .i64 0, .bool false]) ∧ Below w.heap.size w w' := by
  have hu0 := Try.underlying24
  have hu1 := Try.underlying28
  have hu2 := Try.underlying26
  have HR0 := Aside0.mk hr0_2
  have HC0 := Aside0.mk hc0_2
  clear hr0_2 hc0_2
  replace E0 := Aside0.mk E0
  have HT := Aside0.mk (T.Tell.init w)
  go_enter Try.func41, Try.ntmps41
  go_wp2_with (first | ((with_reducible refine gate_dst (N := 3) rfl ?_); refine box_event ?hg (N := 3) ?hd (cs := #[.int .i64 a0_0, .int .i64 a0_1, .slice A0_2 l0_2.length c0_2]) (t := 24) ?hr ?_; (case hd => rfl); (case hg => rfl); (case hr => first | (go_simp; done) | (go_simp; rfl)); intro g_b hg w_3 hbox hb; replace HT := Aside0.mk (HT.out.pushBe hbox hg hb); clear hb hbox hg) | ((with_reducible refine gate_dst (N := 4) rfl ?_); refine box_event ?hg (N := 4) ?hd (cs := #[.int .i64 a1_0, .int .i64 a1_1]) (t := 26) ?hr ?_; (case hd => rfl); (case hg => rfl); (case hr => first | (go_simp; done) | (go_simp; rfl)); intro g_s hg w_4 hbox hb; replace HT := Aside0.mk (HT.out.pushBe hbox hg hb); clear hb hbox hg; have hx0_b := (HT.out.bx 1 rfl 0).trans rfl; have hx1_b := (HT.out.bx 1 rfl 1).trans rfl; have hx2_b := (HT.out.bx 1 rfl 2).trans rfl; have hz_b := (HT.out.far 1 rfl (k := g_b) rfl).1; have hx0_s := (HT.out.bx 0 rfl 0).trans rfl; have hx1_s := (HT.out.bx 0 rfl 1).trans rfl) | ((with_reducible refine gate_dst (N := 13) rfl ?_); (try (refine gate_guard (by rfl) ?_; dsimp only)); refine goesL_ (some 13) rfl rfl Try.func21 (by kernel_rfl) rfl #[.agg #[.int .i64 a0_0, .int .i64 a0_1, .slice A0_2 l0_2.length c0_2], .agg #[.int .i64 a1_0, .int .i64 a1_1]] rfl (by (try simp only [List.map_toArray, List.map_cons, List.map_nil]); first | done | rfl) ?_; (with_reducible refine (board_Get.calls a0_0 a0_1 _ _ l0_2 a1_0 a1_1 t1 t2 t3 t4 t5 t6 false _ ?s1 ?s2 E0.out).mono ?_); (case s1 => exact Kd.C_below HR0.out HT.out.below); (case s2 => exact HC0.out); rintro e_ w_13 ⟨rfl, hb⟩; refine ⟨_, rfl, ?_⟩; replace HT := Aside0.mk (HT.out.step hb); clear hb))
  replace HT := Aside0.mk (HT.out.pushB #[.int .i64 t1, .int .i64 t2, .int .i64 t3, .int .i64 t4, .int .i64 t5, .int .i64 t6] 28)
  go_ret2
  exact ⟨rfl, HT.out.below⟩
theorem due_At.main (k : Nat) (a0_0 a0_1 : Int) (A0_2 : Option Addr) (c0_2 : Nat) (l0_2 : List S28) (a1_0 a1_1 a2 : Int) (t1 t2 t3 t4 t5 t6 p1 p2 p3 p4 p5 p6 : Int) (w : World) (hr0_2 : Kd.C k28 w A0_2 l0_2.length l0_2) (hc0_2 : l0_2.length ≤ c0_2) (E0 : board_Get.f a0_0 a0_1 l0_2 a1_0 a1_1 = some (t1, t2, t3, t4, t5, t6, true)) (E1 : alarm_Pass.f k t1 t2 t3 t4 t5 t6 a2 = some (p1, p2, p3, p4, p5, p6)) :
    Calls Try.prog 41 #[.agg #[.int .i64 a0_0, .int .i64 a0_1, .slice A0_2 l0_2.length c0_2], .agg #[.int .i64 a1_0, .int .i64 a1_1], .int .i64 a2] w fun e w' => e = .returned (.tuple #[.int .i64 p3, .bool true]) ∧ Below w.heap.size w w' := by
  have hu0 := Try.underlying24
  have hu1 := Try.underlying28
  have hu2 := Try.underlying26
  have HR0 := Aside0.mk hr0_2
  have HC0 := Aside0.mk hc0_2
  clear hr0_2 hc0_2
  replace E0 := Aside0.mk E0
  replace E1 := Aside0.mk E1
  have hfl := due_At.fld p1 p2 p3 p4 p5 p6
  have HT := Aside0.mk (T.Tell.init w)
  go_enter Try.func41, Try.ntmps41
  go_wp2_with (first | ((with_reducible refine gate_dst (N := 3) rfl ?_); refine box_event ?hg (N := 3) ?hd (cs := #[.int .i64 a0_0, .int .i64 a0_1, .slice A0_2 l0_2.length c0_2]) (t := 24) ?hr ?_; (case hd => rfl); (case hg => rfl); (case hr => first | (go_simp; done) | (go_simp; rfl)); intro g_b hg w_3 hbox hb; replace HT := Aside0.mk (HT.out.pushBe hbox hg hb); clear hb hbox hg) | ((with_reducible refine gate_dst (N := 4) rfl ?_); refine box_event ?hg (N := 4) ?hd (cs := #[.int .i64 a1_0, .int .i64 a1_1]) (t := 26) ?hr ?_; (case hd => rfl); (case hg => rfl); (case hr => first | (go_simp; done) | (go_simp; rfl)); intro g_s hg w_4 hbox hb; replace HT := Aside0.mk (HT.out.pushBe hbox hg hb); clear hb hbox hg; have hx0_b := (HT.out.bx 1 rfl 0).trans rfl; have hx1_b := (HT.out.bx 1 rfl 1).trans rfl; have hx2_b := (HT.out.bx 1 rfl 2).trans rfl; have hz_b := (HT.out.far 1 rfl (k := g_b) rfl).1; have hx0_s := (HT.out.bx 0 rfl 0).trans rfl; have hx1_s := (HT.out.bx 0 rfl 1).trans rfl) | ((with_reducible refine gate_dst (N := 13) rfl ?_); (try (refine gate_guard (by rfl) ?_; dsimp only)); refine goesL_ (some 13) rfl rfl Try.func21 (by kernel_rfl) rfl #[.agg #[.int .i64 a0_0, .int .i64 a0_1, .slice A0_2 l0_2.length c0_2], .agg #[.int .i64 a1_0, .int .i64 a1_1]] rfl (by (try simp only [List.map_toArray, List.map_cons, List.map_nil]); first | done | rfl) ?_; (with_reducible refine (board_Get.calls a0_0 a0_1 _ _ l0_2 a1_0 a1_1 t1 t2 t3 t4 t5 t6 true _ ?s1 ?s2 E0.out).mono ?_); (case s1 => exact Kd.C_below HR0.out HT.out.below); (case s2 => exact HC0.out); rintro e_ w_13 ⟨rfl, hb⟩; refine ⟨_, rfl, ?_⟩; replace HT := Aside0.mk (HT.out.step hb); clear hb) | ((with_reducible refine gate_dst (N := 20) rfl ?_); (try (refine gate_guard (by rfl) ?_; dsimp only)); replace HT := Aside0.mk (HT.out.pushB #[.int .i64 t1, .int .i64 t2, .int .i64 t3, .int .i64 t4, .int .i64 t5, .int .i64 t6] 28); refine goesL_ (some 20) rfl rfl Try.func34 (by kernel_rfl) rfl #[.agg #[.int .i64 t1, .int .i64 t2, .int .i64 t3, .int .i64 t4, .int .i64 t5, .int .i64 t6], .int .i64 a2] rfl (by (try simp only [List.map_toArray, List.map_cons, List.map_nil]); first | done | rfl) ?_; (with_reducible refine (alarm_Pass.calls k t1 t2 t3 t4 t5 t6 a2 p1 p2 p3 p4 p5 p6 _ E1.out).mono ?_); rintro e_ w_20 ⟨rfl, hb⟩; refine ⟨_, rfl, ?_⟩; replace HT := Aside0.mk (HT.out.step hb); clear hb))
  go_ret2
  exact ⟨rfl, HT.out.below⟩
theorem due_At.calls (k : Nat) (a0_0 a0_1 : Int) (A0_2 : Option Addr) (c0_2 : Nat) (l0_2 : List S28) (a1_0 a1_1 a2 : Int) (r1 : Int) (r2 : Bool) (w : World) (hr0_2 : Kd.C k28 w A0_2 l0_2.length l0_2) (hc0_2 : l0_2.length ≤ c0_2) (h : due_At.f k a0_0 a0_1 l0_2 a1_0 a1_1 a2 = some (r1, r2)) :
    Calls Try.prog 41 #[.agg #[.int .i64 a0_0, .int .i64 a0_1, .slice A0_2 l0_2.length c0_2], .agg #[.int .i64 a1_0, .int .i64 a1_1], .int .i64 a2] w fun e w' => e = .returned (.tuple #[.int .i64 r1, .bool r2]) ∧ Below w.heap.size w w' := by
  obtain ⟨⟨t1, t2, t3, t4, t5, t6, t7⟩, h1, h⟩ := Option.bind_eq_some_iff.mp h
  cases t7 with
  | false =>
    simp only [Bool.false_eq_true, if_false] at h
    obtain ⟨rfl, rfl⟩ : 0 = r1 ∧ false = r2 := by simpa only [Option.some.injEq, Prod.mk.injEq] using h
    exact due_At.e1 k a0_0 a0_1 A0_2 c0_2 l0_2 a1_0 a1_1 a2 t1 t2 t3 t4 t5 t6 w hr0_2 hc0_2 h1
  | true =>
    simp only [if_true] at h
    obtain ⟨⟨p1, p2, p3, p4, p5, p6⟩, h2, h⟩ := Option.bind_eq_some_iff.mp h
    obtain ⟨rfl, rfl⟩ : p3 = r1 ∧ true = r2 := by simpa only [Option.some.injEq, Prod.mk.injEq] using h
    exact due_At.main k a0_0 a0_1 A0_2 c0_2 l0_2 a1_0 a1_1 a2 t1 t2 t3 t4 t5 t6 p1 p2 p3 p4 p5 p6 w hr0_2 hc0_2 h1 h2
theorem due_At.mono : ∀ a0 a1 a2 a3 a4 a5 k, LeO (due_At.f k a0 a1 a2 a3 a4 a5) (due_At.f (k + 1) a0 a1 a2 a3 a4 a5) := by
  intro a0 a1 a2 a3 a4 a5 k
  unfold due_At.f
  exact LeO.bind (LeO.refl _) (fun g => LeO.ite (LeO.bind (alarm_Pass.mono _ _ _ _ _ _ _ k) (fun _ => LeO.refl _)) (LeO.refl _))

end Go.Proofs.Ytcfpbmdndapeaaa.F
