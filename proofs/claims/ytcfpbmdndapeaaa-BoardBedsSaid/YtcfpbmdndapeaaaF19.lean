-- Written by a program of this session (xprint.py), out of the translation and of contracts proved by hand.
import Derived.Test.YtcfpbmdndapeaaaF0
import Derived.Test.YtcfpbmdndapeaaaF2
import Derived.Test.YtcfpbmdndapeaaaF3
import Derived.Test.YtcfpbmdndapeaaaF15
import Derived.Test.YtcfpbmdndapeaaaF17
namespace Go.Proofs.Ytcfpbmdndapeaaa.F
open Go.RowKit Go.Proofs.YtcfpbmdndapeaaaV.PrintWords Go.Proofs.YtcfpbmdndapeaaaV.PrintLast Go.Proofs.YtcfpbmdndapeaaaV.PrintMore
attribute [local go_sem] max2_int min2_int max_two min_two max_three min_three max_four min_four   -- for this text's walks alone
set_option linter.unusedVariables false
set_option linter.unusedSimpArgs false

attribute [local go_sem high] eqA28
/-! ### watchmanlaw08_BoardBeds: function 6 -/
mutual
def watchmanlaw08_BoardBeds.j0 : Nat → List Int → Bool → Int → Int → List (S28) → Option (Bool)
  | 0, _, _, _, _, _ => none
  | k + 1, x1, x16, x405000, x405001, x405002 => if x16 = true then (some true) else ((board_Of.f x405000 x405001 x405002 x1).bind fun t406 => (watchmanlaw08_BoardBeds.l0 k x1 t406 0 0 x405000 x405001 x405002))
def watchmanlaw08_BoardBeds.l0 : Nat → List Int → List (S28) → Int → Int → Int → Int → List (S28) → Option (Bool)
  | 0, _, _, _, _, _, _, _ => none
  | k + 1, x1, x5, x6, x7, x405000, x405001, x405002 => if x7 < (x405002.length : Int) then (watchmanlaw08_BoardBeds.l1 k x1 x5 x6 x7 false 0 x405000 x405001 x405002) else ((watchmanlaw08_boards.f k).bind fun t409 => (if t409 = true then (some (x6 == (x5.length : Int))) else (none)))
def watchmanlaw08_BoardBeds.l1 : Nat → List Int → List (S28) → Int → Int → Bool → Int → Int → Int → List (S28) → Option (Bool)
  | 0, _, _, _, _, _, _, _, _, _ => none
  | k + 1, x1, x5, x6, x7, x8, x9, x405000, x405001, x405002 => if x9 < (x1.length : Int) then (if x8 = true then (watchmanlaw08_BoardBeds.l1 k x1 x5 x6 x7 true (wrap64 (x9 + 1)) x405000 x405001 x405002) else (if 0 ≤ x9 then (if 0 ≤ x7 then (if x7 < (x405002.length : Int) then (watchmanlaw08_BoardBeds.l1 k x1 x5 x6 x7 ((rd x1 x9) == ((rd_T28 x405002 x7).f0.f0)) (wrap64 (x9 + 1)) x405000 x405001 x405002) else (none)) else (none)) else (none))) else (if x8 = true then (if x6 ≥ (x5.length : Int) then (none) else (if 0 ≤ x6 then (if x6 < (x5.length : Int) then (if 0 ≤ x7 then (if x7 < (x405002.length : Int) then (if ((!(((rd_T28 x5 x6).f0.f0) == ((rd_T28 x405002 x7).f0.f0)) || (!(((rd_T28 x5 x6).f0.f1) == ((rd_T28 x405002 x7).f0.f1)))) || (!(((rd_T28 x5 x6).f1) == ((rd_T28 x405002 x7).f1)) || (!(((rd_T28 x5 x6).f2) == ((rd_T28 x405002 x7).f2)) || (!(((rd_T28 x5 x6).f3) == ((rd_T28 x405002 x7).f3)) || (!(((rd_T28 x5 x6).f4) == ((rd_T28 x405002 x7).f4))))))) = true then (none) else (watchmanlaw08_BoardBeds.l0 k x1 x5 (wrap64 (x6 + 1)) (wrap64 (x7 + 1)) x405000 x405001 x405002)) else (none)) else (none)) else (none)) else (none))) else (watchmanlaw08_BoardBeds.l0 k x1 x5 x6 (wrap64 (x7 + 1)) x405000 x405001 x405002))
end
def watchmanlaw08_BoardBeds.f (k : Nat) (a0_0 : Int) (a0_1 : Int) (l0_2 : List (S28)) (l1 : List Int) : Option (Bool) := (watchmanlaw08_far.f a0_0 a0_1 l0_2).bind fun t405 => (if t405 = true then (watchmanlaw08_BoardBeds.j0 k l1 true a0_0 a0_1 l0_2) else (watchmanlaw08_BoardBeds.j0 k l1 (decide ((l1.length : Int) > 60)) a0_0 a0_1 l0_2))
theorem watchmanlaw08_BoardBeds.mono_l : ∀ k, (∀ y0 y1 y2 y3 y4, LeO (watchmanlaw08_BoardBeds.j0 k y0 y1 y2 y3 y4) (watchmanlaw08_BoardBeds.j0 (k + 1) y0 y1 y2 y3 y4)) ∧ (∀ y0 y1 y2 y3 y4 y5 y6, LeO (watchmanlaw08_BoardBeds.l0 k y0 y1 y2 y3 y4 y5 y6) (watchmanlaw08_BoardBeds.l0 (k + 1) y0 y1 y2 y3 y4 y5 y6)) ∧ (∀ y0 y1 y2 y3 y4 y5 y6 y7 y8, LeO (watchmanlaw08_BoardBeds.l1 k y0 y1 y2 y3 y4 y5 y6 y7 y8) (watchmanlaw08_BoardBeds.l1 (k + 1) y0 y1 y2 y3 y4 y5 y6 y7 y8))
  | 0 => ⟨fun _ _ _ _ _ r h => by simp [watchmanlaw08_BoardBeds.j0] at h, fun _ _ _ _ _ _ _ r h => by simp [watchmanlaw08_BoardBeds.l0] at h, fun _ _ _ _ _ _ _ _ _ r h => by simp [watchmanlaw08_BoardBeds.l1] at h⟩
  | k + 1 => by
    obtain ⟨ih0, ih1, ih2⟩ := watchmanlaw08_BoardBeds.mono_l k
    refine ⟨?_, ?_, ?_⟩
    · intro y0 y1 y2 y3 y4
      unfold watchmanlaw08_BoardBeds.j0
      repeat' first
      | (with_reducible exact ih0 _ _ _ _ _)
      | (with_reducible exact ih1 _ _ _ _ _ _ _)
      | (with_reducible exact ih2 _ _ _ _ _ _ _ _ _)
      | (with_reducible exact watchmanlaw08_boards.mono _)
      | (with_reducible exact LeO.refl _)
      | (with_reducible exact LeO.none _)
      | (with_reducible refine LeO.ite ?_ ?_)
      | (with_reducible refine LeO.bind ?_ (fun _ => ?_))
      | exact ih0 _ _ _ _ _
      | exact ih1 _ _ _ _ _ _ _
      | exact ih2 _ _ _ _ _ _ _ _ _
      | exact watchmanlaw08_boards.mono _
      | exact LeO.none _
      | refine LeO.ite ?_ ?_
      | refine LeO.bind ?_ (fun _ => ?_)
    · intro y0 y1 y2 y3 y4 y5 y6
      unfold watchmanlaw08_BoardBeds.l0
      repeat' first
      | (with_reducible exact ih0 _ _ _ _ _)
      | (with_reducible exact ih1 _ _ _ _ _ _ _)
      | (with_reducible exact ih2 _ _ _ _ _ _ _ _ _)
      | (with_reducible exact watchmanlaw08_boards.mono _)
      | (with_reducible exact LeO.refl _)
      | (with_reducible exact LeO.none _)
      | (with_reducible refine LeO.ite ?_ ?_)
      | (with_reducible refine LeO.bind ?_ (fun _ => ?_))
      | exact ih0 _ _ _ _ _
      | exact ih1 _ _ _ _ _ _ _
      | exact ih2 _ _ _ _ _ _ _ _ _
      | exact watchmanlaw08_boards.mono _
      | exact LeO.none _
      | refine LeO.ite ?_ ?_
      | refine LeO.bind ?_ (fun _ => ?_)
    · intro y0 y1 y2 y3 y4 y5 y6 y7 y8
      unfold watchmanlaw08_BoardBeds.l1
      repeat' first
      | (with_reducible exact ih0 _ _ _ _ _)
      | (with_reducible exact ih1 _ _ _ _ _ _ _)
      | (with_reducible exact ih2 _ _ _ _ _ _ _ _ _)
      | (with_reducible exact watchmanlaw08_boards.mono _)
      | (with_reducible exact LeO.refl _)
      | (with_reducible exact LeO.none _)
      | (with_reducible refine LeO.ite ?_ ?_)
      | (with_reducible refine LeO.bind ?_ (fun _ => ?_))
      | exact ih0 _ _ _ _ _
      | exact ih1 _ _ _ _ _ _ _
      | exact ih2 _ _ _ _ _ _ _ _ _
      | exact watchmanlaw08_boards.mono _
      | exact LeO.none _
      | refine LeO.ite ?_ ?_
      | refine LeO.bind ?_ (fun _ => ?_)
theorem watchmanlaw08_BoardBeds.mono : ∀ a0 a1 a2 a3 k, LeO (watchmanlaw08_BoardBeds.f k a0 a1 a2 a3) (watchmanlaw08_BoardBeds.f (k + 1) a0 a1 a2 a3) := by
  intro a0 a1 a2 a3 k
  obtain ⟨ih0, ih1, ih2⟩ := watchmanlaw08_BoardBeds.mono_l k
  unfold watchmanlaw08_BoardBeds.f
  repeat' first
      | (with_reducible exact ih0 _ _ _ _ _)
      | (with_reducible exact ih1 _ _ _ _ _ _ _)
      | (with_reducible exact ih2 _ _ _ _ _ _ _ _ _)
      | (with_reducible exact watchmanlaw08_boards.mono _)
      | (with_reducible exact LeO.refl _)
      | (with_reducible exact LeO.none _)
      | (with_reducible refine LeO.ite ?_ ?_)
      | (with_reducible refine LeO.bind ?_ (fun _ => ?_))
      | exact ih0 _ _ _ _ _
      | exact ih1 _ _ _ _ _ _ _
      | exact ih2 _ _ _ _ _ _ _ _ _
      | exact watchmanlaw08_boards.mono _
      | exact LeO.none _
      | refine LeO.ite ?_ ?_
      | refine LeO.bind ?_ (fun _ => ?_)
set_option maxHeartbeats 8000000 in
set_option maxRecDepth 100000 in
theorem watchmanlaw08_BoardBeds.calls (k : Nat) (a0_0 : Int) (a0_1 : Int) (A0_2 : Option Addr) (c0_2 : Nat) (l0_2 : List (S28)) (A1 : Option Addr) (c1 : Nat) (l1 : List Int) (r : Bool) (w : World) (hr0_2 : Kd.C k28 w A0_2 l0_2.length l0_2) (hc0_2 : l0_2.length ≤ c0_2) (hr1 : Kd.C (Kd.int .i64) w A1 l1.length l1) (hc1 : l1.length ≤ c1) (h : watchmanlaw08_BoardBeds.f k a0_0 a0_1 l0_2 l1 = some r) :
    Calls Try.prog 6 #[.agg #[.int .i64 a0_0, .int .i64 a0_1, .slice A0_2 l0_2.length c0_2], .slice A1 l1.length c1] w fun e w' => e = .returned (.bool r) ∧ Below w.heap.size w w' := by
  have hu24 := Try.underlying24
  have hu28 := Try.underlying28
  have HR0_2 := Aside0.mk hr0_2
  have HC0_2 := Aside0.mk hc0_2
  clear hr0_2 hc0_2
  have HR1 := Aside0.mk hr1
  have HC1 := Aside0.mk hc1
  clear hr1 hc1
  have HB := Aside0.mk (Below.refl w.heap.size w)
  have H : ((watchmanlaw08_far.f a0_0 a0_1 l0_2).bind fun t405 => (if t405 = true then (watchmanlaw08_BoardBeds.j0 k l1 true a0_0 a0_1 l0_2) else (watchmanlaw08_BoardBeds.j0 k l1 (decide ((l1.length : Int) > 60)) a0_0 a0_1 l0_2))) = some r := h
  clear h
  have HC3 := Aside0.mk H
  clear H
  go_enter Try.func6, Try.ntmps6
  go_upto_region 1 with (first | ((with_reducible refine gate_dst (N := 2) rfl ?_); (try (refine gate_guard (by rfl) ?_; dsimp only)); refine box_event ?hg (N := 2) ?hd (cs := #[.int .i64 a0_0, .int .i64 a0_1, .slice A0_2 l0_2.length c0_2]) (t := 24) ?hr ?_; (case hd => rfl); (case hg => rfl); (case hr => first | (go_simp; done) | (go_simp; rfl)); intro gb404 hg w4 hbox hb; have n0_ := Aside0.mk (below_step HB.out hb); have n1_ := Aside0.mk (hbox); have n2_ := Aside0.mk ((by rw [hg]; exact (below_size HB.out) : w.heap.size ≤ gb404)); have n3_ := Aside0.mk ((by rw [hg]; exact (below_size HB.out) : w.heap.size ≤ gb404)); clear HB; have HB := n0_; have BK404 := n1_; have GW404 := n2_; have GE404 := n3_; clear n0_ n1_ n2_ n3_; clear hb hbox hg))
  (try simp only [Act.put, List.setIfInBounds_toArray, List.set_cons_zero, List.set_cons_succ])
  go_cut [16] (fun v16 wc => ∃ (kq : Nat) (x16_2 : Bool), v16 = .bool x16_2 ∧ Aside0 (watchmanlaw08_BoardBeds.j0 kq l1 x16_2 a0_0 a0_1 l0_2 = some r) ∧ Aside0 (kq ≤ k) ∧ Aside0 (wc.heap[gb404]? = some (.cells #[.int .i64 a0_0, .int .i64 a0_1, (.slice A0_2 l0_2.length c0_2)] 24 (0, 0))) ∧ Aside0 (Below w.heap.size w wc))
  case first =>
    have H := HC3.out
    clear HC3
    replace H := Option.bind_eq_some_iff.mp H
    obtain ⟨t405, A50, H⟩ := H
    replace H : (if t405 = true then (watchmanlaw08_BoardBeds.j0 k l1 true a0_0 a0_1 l0_2) else (watchmanlaw08_BoardBeds.j0 k l1 (decide ((l1.length : Int) > 60)) a0_0 a0_1 l0_2)) = some r := H
    have A5 := Aside0.mk A50
    clear A50
    by_cases c6 : t405 = true
    · subst c6
      have H1 : (watchmanlaw08_BoardBeds.j0 k l1 true a0_0 a0_1 l0_2) = some r := by rw [if_pos rfl] at H; exact H
      clear H
      have H := H1
      clear H1
      have H' := Aside0.mk H
      clear H
      have hcz7_0 : w4.cell? ⟨gb404, 0, none⟩ = some (.int .i64 a0_0) := (blk_cell BK404.out 0).trans rfl
      have hcz7_1 : w4.cell? ⟨gb404, 1, none⟩ = some (.int .i64 a0_1) := (blk_cell BK404.out 1).trans rfl
      have hcz7_2 : w4.cell? ⟨gb404, 2, none⟩ = some (.slice A0_2 l0_2.length c0_2) := (blk_cell BK404.out 2).trans rfl
      have hfz7_0 := blk_frozen BK404.out 0
      have hfz7_1 := blk_frozen BK404.out 1
      have hfz7_2 := blk_frozen BK404.out 2
      go_wp2_with (first | (go_at_call 13; (with_reducible refine (watchmanlaw08_far.calls a0_0 a0_1 _ _ l0_2 true _ ?side1 ?side2 A5.out).mono ?_); (case side1 => exact (Kd.C_below HR0_2.out HB.out)); (case side2 => exact HC0_2.out); rintro e w8 ⟨rfl, hb⟩; have n0_ := Aside0.mk (blk_below BK404.out hb); have n1_ := Aside0.mk (below_step (by repeat (with_reducible first | exact HB.out | apply pw_below_drewN | apply below_drew1 | refine below_set ?_ GE404.out)) hb); clear BK404; clear HB; have BK404 := n0_; have HB := n1_; clear n0_ n1_; (try clear hb); (try clear hb2); (try clear hk); (try clear hi)))
      go_meet
      case rel => exact ⟨_, (true), (by first | rfl | (simp; done) | (simp [*]; done)), H', ⟨by first | omega | exact Nat.le_refl _⟩, ⟨by (with_reducible repeat (first | refine blk_drewN ?_ _ | refine blk_drew ?_ | refine blk_alloc ?_ _)); exact BK404.out⟩, ⟨by repeat (with_reducible first | exact HB.out | apply pw_below_drewN | apply below_drew1 | refine below_set ?_ GE404.out)⟩⟩
    · replace c6 := Bool.eq_false_iff.mpr c6
      subst c6
      have H1 : (watchmanlaw08_BoardBeds.j0 k l1 (decide ((l1.length : Int) > 60)) a0_0 a0_1 l0_2) = some r := by rw [if_neg (show ¬ (false = true) by decide)] at H; exact H
      clear H
      have H := H1
      clear H1
      have H' := Aside0.mk H
      clear H
      have hcz9_0 : w4.cell? ⟨gb404, 0, none⟩ = some (.int .i64 a0_0) := (blk_cell BK404.out 0).trans rfl
      have hcz9_1 : w4.cell? ⟨gb404, 1, none⟩ = some (.int .i64 a0_1) := (blk_cell BK404.out 1).trans rfl
      have hcz9_2 : w4.cell? ⟨gb404, 2, none⟩ = some (.slice A0_2 l0_2.length c0_2) := (blk_cell BK404.out 2).trans rfl
      have hfz9_0 := blk_frozen BK404.out 0
      have hfz9_1 := blk_frozen BK404.out 1
      have hfz9_2 := blk_frozen BK404.out 2
      go_wp2_with (first | (go_at_call 13; (with_reducible refine (watchmanlaw08_far.calls a0_0 a0_1 _ _ l0_2 false _ ?side1 ?side2 A5.out).mono ?_); (case side1 => exact (Kd.C_below HR0_2.out HB.out)); (case side2 => exact HC0_2.out); rintro e w10 ⟨rfl, hb⟩; have n0_ := Aside0.mk (blk_below BK404.out hb); have n1_ := Aside0.mk (below_step (by repeat (with_reducible first | exact HB.out | apply pw_below_drewN | apply below_drew1 | refine below_set ?_ GE404.out)) hb); clear BK404; clear HB; have BK404 := n0_; have HB := n1_; clear n0_ n1_; (try clear hb); (try clear hb2); (try clear hk); (try clear hi)))
      go_meet
      case rel => exact ⟨_, (decide ((l1.length : Int) > 60)), (by first | rfl | (simp; done) | (simp [*]; done)), H', ⟨by first | omega | exact Nat.le_refl _⟩, ⟨by (with_reducible repeat (first | refine blk_drewN ?_ _ | refine blk_drew ?_ | refine blk_alloc ?_ _)); exact BK404.out⟩, ⟨by repeat (with_reducible first | exact HB.out | apply pw_below_drewN | apply below_drew1 | refine below_set ?_ GE404.out)⟩⟩
  case rest =>
    clear HC3
    try clear c1
    try clear p2
    try clear c6
    try clear hcz7_0
    try clear hcz7_1
    try clear hcz7_2
    try clear hcz9_0
    try clear hcz9_1
    try clear hcz9_2
    try clear hfz7_0
    try clear hfz7_1
    try clear hfz7_2
    try clear hfz9_0
    try clear hfz9_1
    try clear hfz9_2
    obtain ⟨kq, x16_2, rfl, HA, HJ2, BK404, HB⟩ := hcut
    cases kq with
    | zero => exact absurd HA.out (by simp [watchmanlaw08_BoardBeds.j0])
    | succ kj2 =>
      have H := HA.out
      clear HA
      simp only [watchmanlaw08_BoardBeds.j0] at H
      by_cases c11 : x16_2 = true
      · subst c11
        have H1 : (some true) = some r := by rw [if_pos rfl] at H; exact H
        clear H
        have H := H1
        clear H1
        obtain rfl := Option.some.inj H
        go_wp2
        repeat (go_quiet (fail); try go_wp2)
        go_ret
        exact ⟨by first | rfl | (simp [errW_none, errW_some] <;> rfl) | (simp [*, errW_none, errW_some] <;> rfl), by repeat (with_reducible first | exact HB.out | apply pw_below_drewN | apply below_drew1 | refine below_set ?_ GE404.out)⟩
      · replace c11 := Bool.eq_false_iff.mpr c11
        subst c11
        have H1 : ((board_Of.f a0_0 a0_1 l0_2 l1).bind fun t406 => (watchmanlaw08_BoardBeds.l0 kj2 l1 t406 0 0 a0_0 a0_1 l0_2)) = some r := by rw [if_neg (show ¬ (false = true) by decide)] at H; exact H
        clear H
        have H := H1
        clear H1
        replace H := Option.bind_eq_some_iff.mp H
        obtain ⟨t406, A120, H⟩ := H
        replace H : (watchmanlaw08_BoardBeds.l0 kj2 l1 t406 0 0 a0_0 a0_1 l0_2) = some r := H
        have A12 := Aside0.mk A120
        clear A120
        have H' := Aside0.mk H
        clear H
        have hcz13_0 : wc.cell? ⟨gb404, 0, none⟩ = some (.int .i64 a0_0) := (blk_cell BK404.out 0).trans rfl
        have hcz13_1 : wc.cell? ⟨gb404, 1, none⟩ = some (.int .i64 a0_1) := (blk_cell BK404.out 1).trans rfl
        have hcz13_2 : wc.cell? ⟨gb404, 2, none⟩ = some (.slice A0_2 l0_2.length c0_2) := (blk_cell BK404.out 2).trans rfl
        have hfz13_0 := blk_frozen BK404.out 0
        have hfz13_1 := blk_frozen BK404.out 1
        have hfz13_2 := blk_frozen BK404.out 2
        go_wp2_with (first | (go_at_call 26; (with_reducible refine (board_Of.calls a0_0 a0_1 _ _ l0_2 _ _ l1 t406 _ ?side1 ?side2 ?side3 ?side4 A12.out).mono ?_); (case side1 => exact (Kd.C_below HR0_2.out HB.out)); (case side2 => exact HC0_2.out); (case side3 => exact (Kd.C_below HR1.out HB.out)); (case side4 => exact HC1.out); rintro e w14 ⟨v407, rfl, ho0, hb⟩; have n0_ := Aside0.mk (Kd.R_lower ho0 (below_size (by repeat (with_reducible first | exact HB.out | apply pw_below_drewN | apply below_drew1 | refine below_set ?_ GE404.out)))); have n1_ := Aside0.mk (blk_below BK404.out hb); have n2_ := Aside0.mk (below_step (by repeat (with_reducible first | exact HB.out | apply pw_below_drewN | apply below_drew1 | refine below_set ?_ GE404.out)) hb); clear BK404; clear HB; have HO408 := n0_; have BK404 := n1_; have HB := n2_; clear n0_ n1_ n2_; (try clear hb); (try clear hb2); (try clear hk); (try clear hi); (try clear ho0)))
        go_loopg [6, 7] kj2 (fun kq v6 v7 w' => ∃ (x6_2 : Int) (x7_2 : Int), v6 = .int .i64 x6_2 ∧ v7 = .int .i64 x7_2 ∧ Aside0 (watchmanlaw08_BoardBeds.l0 kq l1 t406 x6_2 x7_2 a0_0 a0_1 l0_2 = some r) ∧ Aside0 (kq ≤ kj2) ∧ Aside0 (Kd.R k28 28 w' w.heap.size (fun _ => True) v407 t406) ∧ Aside0 (w'.heap[gb404]? = some (.cells #[.int .i64 a0_0, .int .i64 a0_1, (.slice A0_2 l0_2.length c0_2)] 24 (0, 0))) ∧ Aside0 (Below w.heap.size w w'))
        case atStart => exact ⟨(0), (0), (by first | rfl | (simp; done) | (simp [*]; done)), (by first | rfl | (simp; done) | (simp [*]; done)), H', ⟨Nat.le_refl _⟩, ⟨by (with_reducible repeat (first | apply Kd.R_alloc | apply Kd.R_drewN | apply Kd.R_drew)); exact HO408.out⟩, ⟨by (with_reducible repeat (first | refine blk_drewN ?_ _ | refine blk_drew ?_ | refine blk_alloc ?_ _)); exact BK404.out⟩, ⟨by repeat (with_reducible first | exact HB.out | apply pw_below_drewN | apply below_drew1 | refine below_set ?_ GE404.out)⟩⟩
        case round =>
          clear H'
          try clear c1
          try clear p2
          try clear c6
          try clear c11
          try clear hcz13_0
          try clear hcz13_1
          try clear hcz13_2
          try clear hcz7_0
          try clear hcz7_1
          try clear hcz7_2
          try clear hcz9_0
          try clear hcz9_1
          try clear hcz9_2
          try clear hfz13_0
          try clear hfz13_1
          try clear hfz13_2
          try clear hfz7_0
          try clear hfz7_1
          try clear hfz7_2
          try clear hfz9_0
          try clear hfz9_1
          try clear hfz9_2
          try clear p2
          obtain ⟨x6_2, x7_2, rfl, rfl, HA, HK2, HO_5, BK404, HB⟩ := hrel
          cases gk with
          | zero => exact absurd HA.out (by simp [watchmanlaw08_BoardBeds.l0])
          | succ k2 =>
            have H := HA.out
            clear HA
            simp only [watchmanlaw08_BoardBeds.l0] at H
            by_cases c15 : x7_2 < (l0_2.length : Int)
            · rw [if_pos c15] at H
              have c15b0 : decide (x7_2 < (l0_2.length : Int)) = true := decide_eq_true c15
              clear c15
              have H' := Aside0.mk H
              clear H
              have hcz16_0 : wr.cell? ⟨gb404, 0, none⟩ = some (.int .i64 a0_0) := (blk_cell BK404.out 0).trans rfl
              have hcz16_1 : wr.cell? ⟨gb404, 1, none⟩ = some (.int .i64 a0_1) := (blk_cell BK404.out 1).trans rfl
              have hcz16_2 : wr.cell? ⟨gb404, 2, none⟩ = some (.slice A0_2 l0_2.length c0_2) := (blk_cell BK404.out 2).trans rfl
              have hfz16_0 := blk_frozen BK404.out 0
              have hfz16_1 := blk_frozen BK404.out 1
              have hfz16_2 := blk_frozen BK404.out 2
              go_wp2
              repeat (go_quiet (fail); try go_wp2)
              go_loopg [8, 9] k2 (fun kq v8 v9 w' => ∃ (x8_3 : Bool) (x9_3 : Int), v8 = .bool x8_3 ∧ v9 = .int .i64 x9_3 ∧ Aside0 (watchmanlaw08_BoardBeds.l1 kq l1 t406 x6_2 x7_2 x8_3 x9_3 a0_0 a0_1 l0_2 = some r) ∧ Aside0 (kq ≤ k2) ∧ Aside0 (Kd.R k28 28 w' w.heap.size (fun _ => True) v407 t406) ∧ Aside0 (w'.heap[gb404]? = some (.cells #[.int .i64 a0_0, .int .i64 a0_1, (.slice A0_2 l0_2.length c0_2)] 24 (0, 0))) ∧ Aside0 (Below w.heap.size w w'))
              case atStart => exact ⟨(false), (0), (by first | rfl | (simp; done) | (simp [*]; done)), (by first | rfl | (simp; done) | (simp [*]; done)), H', ⟨Nat.le_refl _⟩, ⟨by (with_reducible repeat (first | apply Kd.R_alloc | apply Kd.R_drewN | apply Kd.R_drew)); exact HO_5.out⟩, ⟨by (with_reducible repeat (first | refine blk_drewN ?_ _ | refine blk_drew ?_ | refine blk_alloc ?_ _)); exact BK404.out⟩, ⟨by repeat (with_reducible first | exact HB.out | apply pw_below_drewN | apply below_drew1 | refine below_set ?_ GE404.out)⟩⟩
              case round =>
                clear H'
                try clear c1
                try clear p2
                try clear c6
                try clear c11
                try clear c15
                try clear c15b0
                try clear hcz13_0
                try clear hcz13_1
                try clear hcz13_2
                try clear hcz16_0
                try clear hcz16_1
                try clear hcz16_2
                try clear hcz7_0
                try clear hcz7_1
                try clear hcz7_2
                try clear hcz9_0
                try clear hcz9_1
                try clear hcz9_2
                try clear hfz13_0
                try clear hfz13_1
                try clear hfz13_2
                try clear hfz16_0
                try clear hfz16_1
                try clear hfz16_2
                try clear hfz7_0
                try clear hfz7_1
                try clear hfz7_2
                try clear hfz9_0
                try clear hfz9_1
                try clear hfz9_2
                try clear p2
                obtain ⟨x8_3, x9_3, rfl, rfl, HA, HK3, HO_5, BK404, HB⟩ := hrel
                cases gk with
                | zero => exact absurd HA.out (by simp [watchmanlaw08_BoardBeds.l1])
                | succ k3 =>
                  have H := HA.out
                  clear HA
                  simp only [watchmanlaw08_BoardBeds.l1] at H
                  by_cases c17 : x9_3 < (l1.length : Int)
                  · rw [if_pos c17] at H
                    have c17b0 : decide (x9_3 < (l1.length : Int)) = true := decide_eq_true c17
                    clear c17
                    by_cases c18 : x8_3 = true
                    · subst c18
                      have H1 : (watchmanlaw08_BoardBeds.l1 k3 l1 t406 x6_2 x7_2 true (wrap64 (x9_3 + 1)) a0_0 a0_1 l0_2) = some r := by rw [if_pos rfl] at H; exact H
                      clear H
                      have H := H1
                      clear H1
                      have H' := Aside0.mk H
                      clear H
                      go_wp2
                      repeat (go_quiet (fail); try go_wp2)
                      go_roundg k3
                      case measure => have := HJ2.out; have := HK2.out; have := HK3.out; omega
                      case rel => exact ⟨(true), (wrap64 (x9_3 + 1)), (by first | rfl | (simp; done) | (simp [*]; done)), (by first | rfl | (simp; done) | (simp [*]; done)), H', ⟨by have := HJ2.out; have := HK2.out; have := HK3.out; omega⟩, ⟨by (with_reducible repeat (first | apply Kd.R_alloc | apply Kd.R_drewN | apply Kd.R_drew)); exact HO_5.out⟩, ⟨by (with_reducible repeat (first | refine blk_drewN ?_ _ | refine blk_drew ?_ | refine blk_alloc ?_ _)); exact BK404.out⟩, ⟨by repeat (with_reducible first | exact HB.out | apply pw_below_drewN | apply below_drew1 | refine below_set ?_ GE404.out)⟩⟩
                    · replace c18 := Bool.eq_false_iff.mpr c18
                      subst c18
                      have H1 : (if 0 ≤ x9_3 then (if 0 ≤ x7_2 then (if x7_2 < (l0_2.length : Int) then (watchmanlaw08_BoardBeds.l1 k3 l1 t406 x6_2 x7_2 ((rd l1 x9_3) == ((rd_T28 l0_2 x7_2).f0.f0)) (wrap64 (x9_3 + 1)) a0_0 a0_1 l0_2) else (none)) else (none)) else (none)) = some r := by rw [if_neg (show ¬ (false = true) by decide)] at H; exact H
                      clear H
                      have H := H1
                      clear H1
                      by_cases c19 : 0 ≤ x9_3
                      · rw [if_pos c19] at H
                        have c19b0 : decide (0 ≤ x9_3) = true := decide_eq_true c19
                        clear c19
                        by_cases c20 : 0 ≤ x7_2
                        · rw [if_pos c20] at H
                          have c20b0 : decide (0 ≤ x7_2) = true := decide_eq_true c20
                          clear c20
                          by_cases c21 : x7_2 < (l0_2.length : Int)
                          · rw [if_pos c21] at H
                            have c21b0 : decide (x7_2 < (l0_2.length : Int)) = true := decide_eq_true c21
                            clear c21
                            have H' := Aside0.mk H
                            clear H
                            have p410 : 0 ≤ (x9_3 : Int) := of_decide_eq_true (by first | (with_reducible assumption) | assumption)
                            have q410 : x9_3 < (l1.length : Int) := of_decide_eq_true (by first | (with_reducible assumption) | assumption)
                            obtain ⟨ad410, e410, hx410_0⟩ := Kd.at_int HR1.out x9_3 p410 q410
                            cases e410
                            replace hx410_0 := (HB.out.cell (World.block_lt_of_cell? w _ hx410_0)).trans hx410_0
                            replace p410 := eq_true p410
                            replace q410 := eq_true q410
                            have hcz22_0 : wr.cell? ⟨gb404, 0, none⟩ = some (.int .i64 a0_0) := (blk_cell BK404.out 0).trans rfl
                            have hcz22_1 : wr.cell? ⟨gb404, 1, none⟩ = some (.int .i64 a0_1) := (blk_cell BK404.out 1).trans rfl
                            have hcz22_2 : wr.cell? ⟨gb404, 2, none⟩ = some (.slice A0_2 l0_2.length c0_2) := (blk_cell BK404.out 2).trans rfl
                            have hfz22_0 := blk_frozen BK404.out 0
                            have hfz22_1 := blk_frozen BK404.out 1
                            have hfz22_2 := blk_frozen BK404.out 2
                            have p411 : 0 ≤ (x7_2 : Int) := of_decide_eq_true (by first | (with_reducible assumption) | assumption)
                            have q411 : x7_2 < (l0_2.length : Int) := of_decide_eq_true (by first | (with_reducible assumption) | assumption)
                            obtain ⟨ad411, e411, hx411_0, hx411_1, hx411_2, hx411_3, hx411_4, hx411_5⟩ := at_T28 HR0_2.out x7_2 p411 q411
                            cases e411
                            replace hx411_0 := (HB.out.cell (World.block_lt_of_cell? w _ hx411_0)).trans hx411_0
                            replace hx411_1 := (HB.out.cell (World.block_lt_of_cell? w _ hx411_1)).trans hx411_1
                            replace hx411_2 := (HB.out.cell (World.block_lt_of_cell? w _ hx411_2)).trans hx411_2
                            replace hx411_3 := (HB.out.cell (World.block_lt_of_cell? w _ hx411_3)).trans hx411_3
                            replace hx411_4 := (HB.out.cell (World.block_lt_of_cell? w _ hx411_4)).trans hx411_4
                            replace hx411_5 := (HB.out.cell (World.block_lt_of_cell? w _ hx411_5)).trans hx411_5
                            replace p411 := eq_true p411
                            replace q411 := eq_true q411
                            go_wp2
                            repeat (go_quiet (fail); try go_wp2)
                            go_roundg k3
                            case measure => have := HJ2.out; have := HK2.out; have := HK3.out; omega
                            case rel => exact ⟨(((rd l1 x9_3) == ((rd_T28 l0_2 x7_2).f0.f0))), (wrap64 (x9_3 + 1)), (by first | rfl | (simp; done) | (simp [*]; done)), (by first | rfl | (simp; done) | (simp [*]; done)), H', ⟨by have := HJ2.out; have := HK2.out; have := HK3.out; omega⟩, ⟨by (with_reducible repeat (first | apply Kd.R_alloc | apply Kd.R_drewN | apply Kd.R_drew)); exact HO_5.out⟩, ⟨by (with_reducible repeat (first | refine blk_drewN ?_ _ | refine blk_drew ?_ | refine blk_alloc ?_ _)); exact BK404.out⟩, ⟨by repeat (with_reducible first | exact HB.out | apply pw_below_drewN | apply below_drew1 | refine below_set ?_ GE404.out)⟩⟩
                          · rw [if_neg c21] at H
                            exact absurd H (by simp)
                        · rw [if_neg c20] at H
                          exact absurd H (by simp)
                      · rw [if_neg c19] at H
                        exact absurd H (by simp)
                  · rw [if_neg c17] at H
                    have c17b0 : decide (x9_3 < (l1.length : Int)) = false := decide_eq_false c17
                    clear c17
                    by_cases c23 : x8_3 = true
                    · subst c23
                      have H1 : (if x6_2 ≥ (t406.length : Int) then (none) else (if 0 ≤ x6_2 then (if x6_2 < (t406.length : Int) then (if 0 ≤ x7_2 then (if x7_2 < (l0_2.length : Int) then (if ((!(((rd_T28 t406 x6_2).f0.f0) == ((rd_T28 l0_2 x7_2).f0.f0)) || (!(((rd_T28 t406 x6_2).f0.f1) == ((rd_T28 l0_2 x7_2).f0.f1)))) || (!(((rd_T28 t406 x6_2).f1) == ((rd_T28 l0_2 x7_2).f1)) || (!(((rd_T28 t406 x6_2).f2) == ((rd_T28 l0_2 x7_2).f2)) || (!(((rd_T28 t406 x6_2).f3) == ((rd_T28 l0_2 x7_2).f3)) || (!(((rd_T28 t406 x6_2).f4) == ((rd_T28 l0_2 x7_2).f4))))))) = true then (none) else (watchmanlaw08_BoardBeds.l0 k3 l1 t406 (wrap64 (x6_2 + 1)) (wrap64 (x7_2 + 1)) a0_0 a0_1 l0_2)) else (none)) else (none)) else (none)) else (none))) = some r := by rw [if_pos rfl] at H; exact H
                      clear H
                      have H := H1
                      clear H1
                      by_cases c24 : x6_2 ≥ (t406.length : Int)
                      · rw [if_pos c24] at H
                        exact absurd H (by simp)
                      · rw [if_neg c24] at H
                        have c24b0 : decide ((t406.length : Int) ≤ x6_2) = false := decide_eq_false c24
                        clear c24
                        by_cases c25 : 0 ≤ x6_2
                        · rw [if_pos c25] at H
                          have c25b0 : decide (0 ≤ x6_2) = true := decide_eq_true c25
                          clear c25
                          by_cases c26 : x6_2 < (t406.length : Int)
                          · rw [if_pos c26] at H
                            have c26b0 : decide (x6_2 < (t406.length : Int)) = true := decide_eq_true c26
                            clear c26
                            by_cases c27 : 0 ≤ x7_2
                            · rw [if_pos c27] at H
                              have c27b0 : decide (0 ≤ x7_2) = true := decide_eq_true c27
                              clear c27
                              by_cases c28 : x7_2 < (l0_2.length : Int)
                              · rw [if_pos c28] at H
                                have c28b0 : decide (x7_2 < (l0_2.length : Int)) = true := decide_eq_true c28
                                clear c28
                                by_cases c29 : ((!(((rd_T28 t406 x6_2).f0.f0) == ((rd_T28 l0_2 x7_2).f0.f0)) || (!(((rd_T28 t406 x6_2).f0.f1) == ((rd_T28 l0_2 x7_2).f0.f1)))) || (!(((rd_T28 t406 x6_2).f1) == ((rd_T28 l0_2 x7_2).f1)) || (!(((rd_T28 t406 x6_2).f2) == ((rd_T28 l0_2 x7_2).f2)) || (!(((rd_T28 t406 x6_2).f3) == ((rd_T28 l0_2 x7_2).f3)) || (!(((rd_T28 t406 x6_2).f4) == ((rd_T28 l0_2 x7_2).f4))))))) = true
                                · rw [if_pos c29] at H
                                  exact absurd H (by simp)
                                · rw [if_neg c29] at H
                                  have c29b0 : ((!(((rd_T28 t406 x6_2).f0.f0) == ((rd_T28 l0_2 x7_2).f0.f0)) || (!(((rd_T28 t406 x6_2).f0.f1) == ((rd_T28 l0_2 x7_2).f0.f1)))) || (!(((rd_T28 t406 x6_2).f1) == ((rd_T28 l0_2 x7_2).f1)) || (!(((rd_T28 t406 x6_2).f2) == ((rd_T28 l0_2 x7_2).f2)) || (!(((rd_T28 t406 x6_2).f3) == ((rd_T28 l0_2 x7_2).f3)) || (!(((rd_T28 t406 x6_2).f4) == ((rd_T28 l0_2 x7_2).f4))))))) = false := by simpa using c29
                                  clear c29
                                  have H' := Aside0.mk H
                                  clear H
                                  obtain ⟨Ao30, co30, eo30⟩ := Kd.R_slice HO_5.out
                                  subst eo30
                                  have p412 : 0 ≤ (x6_2 : Int) := of_decide_eq_true (by first | (with_reducible assumption) | assumption)
                                  have q412 : x6_2 < (t406.length : Int) := of_decide_eq_true (by first | (with_reducible assumption) | assumption)
                                  obtain ⟨ad412, e412, hx412_0, hx412_1, hx412_2, hx412_3, hx412_4, hx412_5⟩ := at_T28 (Kd.R_reads' HO_5.out).2.2 x6_2 p412 q412
                                  cases e412
                                  replace p412 := eq_true p412
                                  replace q412 := eq_true q412
                                  have hcz31_0 : wr.cell? ⟨gb404, 0, none⟩ = some (.int .i64 a0_0) := (blk_cell BK404.out 0).trans rfl
                                  have hcz31_1 : wr.cell? ⟨gb404, 1, none⟩ = some (.int .i64 a0_1) := (blk_cell BK404.out 1).trans rfl
                                  have hcz31_2 : wr.cell? ⟨gb404, 2, none⟩ = some (.slice A0_2 l0_2.length c0_2) := (blk_cell BK404.out 2).trans rfl
                                  have hfz31_0 := blk_frozen BK404.out 0
                                  have hfz31_1 := blk_frozen BK404.out 1
                                  have hfz31_2 := blk_frozen BK404.out 2
                                  have p413 : 0 ≤ (x7_2 : Int) := of_decide_eq_true (by first | (with_reducible assumption) | assumption)
                                  have q413 : x7_2 < (l0_2.length : Int) := of_decide_eq_true (by first | (with_reducible assumption) | assumption)
                                  obtain ⟨ad413, e413, hx413_0, hx413_1, hx413_2, hx413_3, hx413_4, hx413_5⟩ := at_T28 HR0_2.out x7_2 p413 q413
                                  cases e413
                                  replace hx413_0 := (HB.out.cell (World.block_lt_of_cell? w _ hx413_0)).trans hx413_0
                                  replace hx413_1 := (HB.out.cell (World.block_lt_of_cell? w _ hx413_1)).trans hx413_1
                                  replace hx413_2 := (HB.out.cell (World.block_lt_of_cell? w _ hx413_2)).trans hx413_2
                                  replace hx413_3 := (HB.out.cell (World.block_lt_of_cell? w _ hx413_3)).trans hx413_3
                                  replace hx413_4 := (HB.out.cell (World.block_lt_of_cell? w _ hx413_4)).trans hx413_4
                                  replace hx413_5 := (HB.out.cell (World.block_lt_of_cell? w _ hx413_5)).trans hx413_5
                                  replace p413 := eq_true p413
                                  replace q413 := eq_true q413
                                  go_wp2
                                  repeat (go_quiet (fail); try go_wp2)
                                  go_roundg k3
                                  case measure => have := HJ2.out; have := HK2.out; have := HK3.out; omega
                                  case rel => exact ⟨(wrap64 (x6_2 + 1)), (wrap64 (x7_2 + 1)), (by first | rfl | (simp; done) | (simp [*]; done)), (by first | rfl | (simp; done) | (simp [*]; done)), H', ⟨by have := HJ2.out; have := HK2.out; have := HK3.out; omega⟩, ⟨by (with_reducible repeat (first | apply Kd.R_alloc | apply Kd.R_drewN | apply Kd.R_drew)); exact HO_5.out⟩, ⟨by (with_reducible repeat (first | refine blk_drewN ?_ _ | refine blk_drew ?_ | refine blk_alloc ?_ _)); exact BK404.out⟩, ⟨by repeat (with_reducible first | exact HB.out | apply pw_below_drewN | apply below_drew1 | refine below_set ?_ GE404.out)⟩⟩
                              · rw [if_neg c28] at H
                                exact absurd H (by simp)
                            · rw [if_neg c27] at H
                              exact absurd H (by simp)
                          · rw [if_neg c26] at H
                            exact absurd H (by simp)
                        · rw [if_neg c25] at H
                          exact absurd H (by simp)
                    · replace c23 := Bool.eq_false_iff.mpr c23
                      subst c23
                      have H1 : (watchmanlaw08_BoardBeds.l0 k3 l1 t406 x6_2 (wrap64 (x7_2 + 1)) a0_0 a0_1 l0_2) = some r := by rw [if_neg (show ¬ (false = true) by decide)] at H; exact H
                      clear H
                      have H := H1
                      clear H1
                      have H' := Aside0.mk H
                      clear H
                      go_wp2
                      repeat (go_quiet (fail); try go_wp2)
                      go_roundg k3
                      case measure => have := HJ2.out; have := HK2.out; have := HK3.out; omega
                      case rel => exact ⟨(x6_2), (wrap64 (x7_2 + 1)), (by first | rfl | (simp; done) | (simp [*]; done)), (by first | rfl | (simp; done) | (simp [*]; done)), H', ⟨by have := HJ2.out; have := HK2.out; have := HK3.out; omega⟩, ⟨by (with_reducible repeat (first | apply Kd.R_alloc | apply Kd.R_drewN | apply Kd.R_drew)); exact HO_5.out⟩, ⟨by (with_reducible repeat (first | refine blk_drewN ?_ _ | refine blk_drew ?_ | refine blk_alloc ?_ _)); exact BK404.out⟩, ⟨by repeat (with_reducible first | exact HB.out | apply pw_below_drewN | apply below_drew1 | refine below_set ?_ GE404.out)⟩⟩
            · rw [if_neg c15] at H
              have c15b0 : decide (x7_2 < (l0_2.length : Int)) = false := decide_eq_false c15
              clear c15
              replace H := Option.bind_eq_some_iff.mp H
              obtain ⟨t409, A320, H⟩ := H
              replace H : (if t409 = true then (some (x6_2 == (t406.length : Int))) else (none)) = some r := H
              have A32 := Aside0.mk A320
              clear A320
              by_cases c33 : t409 = true
              · subst c33
                have H1 : (some (x6_2 == (t406.length : Int))) = some r := by rw [if_pos rfl] at H; exact H
                clear H
                have H := H1
                clear H1
                obtain rfl := Option.some.inj H
                have hcz34_0 : wr.cell? ⟨gb404, 0, none⟩ = some (.int .i64 a0_0) := (blk_cell BK404.out 0).trans rfl
                have hcz34_1 : wr.cell? ⟨gb404, 1, none⟩ = some (.int .i64 a0_1) := (blk_cell BK404.out 1).trans rfl
                have hcz34_2 : wr.cell? ⟨gb404, 2, none⟩ = some (.slice A0_2 l0_2.length c0_2) := (blk_cell BK404.out 2).trans rfl
                have hfz34_0 := blk_frozen BK404.out 0
                have hfz34_1 := blk_frozen BK404.out 1
                have hfz34_2 := blk_frozen BK404.out 2
                go_wp2_with (first | (go_at_call 31; (with_reducible refine (watchmanlaw08_boards.calls k2  true _ A32.out).mono ?_); rintro e w35 ⟨rfl, hb⟩; have n0_ := Aside0.mk (Kd.R_below (HO_5.out) hb); have n1_ := Aside0.mk (blk_below BK404.out hb); have n2_ := Aside0.mk (below_step (by repeat (with_reducible first | exact HB.out | apply pw_below_drewN | apply below_drew1 | refine below_set ?_ GE404.out)) hb); clear HO_5; clear BK404; clear HB; have HO_5 := n0_; have BK404 := n1_; have HB := n2_; clear n0_ n1_ n2_; (try clear hb); (try clear hb2); (try clear hk); (try clear hi); obtain ⟨Ao36, co36, eo36⟩ := Kd.R_slice HO_5.out; subst eo36))
                go_ret
                exact ⟨by first | rfl | (simp [errW_none, errW_some] <;> rfl) | (simp [*, errW_none, errW_some] <;> rfl), by repeat (with_reducible first | exact HB.out | apply pw_below_drewN | apply below_drew1 | refine below_set ?_ GE404.out)⟩
              · replace c33 := Bool.eq_false_iff.mpr c33
                subst c33
                have H1 : (none) = some r := by rw [if_neg (show ¬ (false = true) by decide)] at H; exact H
                clear H
                have H := H1
                clear H1
                exact absurd H (by simp)

end Go.Proofs.Ytcfpbmdndapeaaa.F
