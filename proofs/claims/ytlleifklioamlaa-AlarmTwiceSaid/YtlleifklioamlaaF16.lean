-- Written by a program of this session (xprint.py), out of the translation and of contracts proved by hand.
import Derived.Test.YtlleifklioamlaaF0
import Derived.Test.YtlleifklioamlaaF3
namespace Go.Proofs.Ytlleifklioamlaa.F
open Go.RowKit Go.Proofs.YtlleifklioamlaaV.PrintWords Go.Proofs.YtlleifklioamlaaV.PrintLast Go.Proofs.YtlleifklioamlaaV.PrintMore
attribute [local go_sem] max2_int min2_int max_two min_two max_three min_three max_four min_four   -- for this text's walks alone
set_option linter.unusedVariables false
set_option linter.unusedSimpArgs false

/-! ### alarm_Raise: function 17 -/
def alarm_Raise.j0 : Nat → Int → Int → Bool → Int → Int → Int → Int → Int → Int → Option (Int × Int × Int × Int × Int × Int × Int)
  | 0, _, _, _, _, _, _, _, _, _ => none
  | k + 1, x1, x2, x9, x369000, x369001, x369002, x369003, x369004, x369005 => if x9 = true then (some (0, 0, 0, 0, 0, 0, 1)) else (if x2 < x369004 then (some (0, 0, 0, 0, 0, 0, 62)) else (if x369002 = 3 then ((alarm_Wait.f (mn x369003 x1)).bind fun t373 => (some (x369000, x369001, 1, mn x369003 x1, x2, wrap64 (x2 + t373), 0))) else (if x369002 = 1 then (if x1 < x369003 then ((alarm_Wait.f (mn x369003 x1)).bind fun t374 => (some (x369000, x369001, x369002, mn x369003 x1, x369004, mx (mn x369005 (wrap64 (x2 + t374))) x369004, 0))) else (some (x369000, x369001, x369002, mn x369003 x1, x369004, x369005, 0))) else (some (x369000, x369001, x369002, mn x369003 x1, x369004, x369005, 0)))))
def alarm_Raise.f (k : Nat) (a0_0 : Int) (a0_1 : Int) (a0_2 : Int) (a0_3 : Int) (a0_4 : Int) (a0_5 : Int) (a1 : Int) (a2 : Int) : Option (Int × Int × Int × Int × Int × Int × Int) := (alarm_Is.f a0_0 a0_1 a0_2 a0_3 a0_4 a0_5).bind fun t370 => (if t370 = true then ((alarm_Wait.f a1).bind fun t371 => (if t371 = 0 then (alarm_Raise.j0 k a1 a2 true a0_0 a0_1 a0_2 a0_3 a0_4 a0_5) else ((alarm_time.f a2).bind fun t372 => (alarm_Raise.j0 k a1 a2 (!t372) a0_0 a0_1 a0_2 a0_3 a0_4 a0_5)))) else (alarm_Raise.j0 k a1 a2 true a0_0 a0_1 a0_2 a0_3 a0_4 a0_5))
theorem alarm_Raise.mono_l : ∀ k, (∀ y0 y1 y2 y3 y4 y5 y6 y7 y8, LeO (alarm_Raise.j0 k y0 y1 y2 y3 y4 y5 y6 y7 y8) (alarm_Raise.j0 (k + 1) y0 y1 y2 y3 y4 y5 y6 y7 y8))
  | 0 => fun _ _ _ _ _ _ _ _ _ r h => by simp [alarm_Raise.j0] at h
  | k + 1 => by
    have ih0 := alarm_Raise.mono_l k
    · intro y0 y1 y2 y3 y4 y5 y6 y7 y8
      unfold alarm_Raise.j0
      repeat' first
      | (with_reducible exact ih0 _ _ _ _ _ _ _ _ _)
      | (with_reducible exact LeO.refl _)
      | (with_reducible exact LeO.none _)
      | (with_reducible refine LeO.ite ?_ ?_)
      | (with_reducible refine LeO.bind ?_ (fun _ => ?_))
      | exact ih0 _ _ _ _ _ _ _ _ _
      | exact LeO.none _
      | refine LeO.ite ?_ ?_
      | refine LeO.bind ?_ (fun _ => ?_)
theorem alarm_Raise.mono : ∀ a0 a1 a2 a3 a4 a5 a6 a7 k, LeO (alarm_Raise.f k a0 a1 a2 a3 a4 a5 a6 a7) (alarm_Raise.f (k + 1) a0 a1 a2 a3 a4 a5 a6 a7) := by
  intro a0 a1 a2 a3 a4 a5 a6 a7 k
  have ih0 := alarm_Raise.mono_l k
  unfold alarm_Raise.f
  repeat' first
      | (with_reducible exact ih0 _ _ _ _ _ _ _ _ _)
      | (with_reducible exact LeO.refl _)
      | (with_reducible exact LeO.none _)
      | (with_reducible refine LeO.ite ?_ ?_)
      | (with_reducible refine LeO.bind ?_ (fun _ => ?_))
      | exact ih0 _ _ _ _ _ _ _ _ _
      | exact LeO.none _
      | refine LeO.ite ?_ ?_
      | refine LeO.bind ?_ (fun _ => ?_)
def alarm_Raise.T10 : Bool × List (List Nat × List Nat) := (true, [([], []), ([0], [0]), ([], []), ([], []), ([3], [3]), ([4], [4]), ([2, 5], [2, 5]), ([1, 6], [1, 6]), ([], []), ([8], [8]), ([7, 9], [7, 9]), ([0, 1, 2, 3, 4, 5, 6, 7, 8, 9, 10], []), ([11, 10, 5, 0, 1, 2, 3, 4, 5, 6, 7, 8, 9, 10], [10, 11])])
def alarm_Raise.B10 : List Nat := [0, 1, 0, 0, 8, 24, 60, 127, 0, 256, 1023, 2047, 4095]
theorem alarm_Raise.tab10 : rtab .any (opsOf Try.f17 10) = alarm_Raise.T10 := by kernel_rfl
theorem alarm_Raise.bits10 : waitsOk alarm_Raise.T10.2 alarm_Raise.B10 = true := by kernel_rfl
set_option maxHeartbeats 8000000 in
set_option maxRecDepth 100000 in
theorem alarm_Raise.calls (k : Nat) (a0_0 : Int) (a0_1 : Int) (a0_2 : Int) (a0_3 : Int) (a0_4 : Int) (a0_5 : Int) (a1 : Int) (a2 : Int) (r1 : Int) (r2 : Int) (r3 : Int) (r4 : Int) (r5 : Int) (r6 : Int) (r7 : Int) (w : World) (h : alarm_Raise.f k a0_0 a0_1 a0_2 a0_3 a0_4 a0_5 a1 a2 = some (r1, r2, r3, r4, r5, r6, r7)) :
    Calls Try.prog 17 #[.agg #[.int .i64 a0_0, .int .i64 a0_1, .int .i64 a0_2, .int .i64 a0_3, .int .i64 a0_4, .int .i64 a0_5], .int .i64 a1, .int .i64 a2] w fun e w' => e = .returned (.tuple #[.agg #[.int .i64 r1, .int .i64 r2, .int .i64 r3, .int .i64 r4, .int .i64 r5, .int .i64 r6], .int .i64 r7]) ∧ Below w.heap.size w w' := by
  have hu25 := Try.underlying25
  have HB := Aside0.mk (Below.refl w.heap.size w)
  have H : ((alarm_Is.f a0_0 a0_1 a0_2 a0_3 a0_4 a0_5).bind fun t370 => (if t370 = true then ((alarm_Wait.f a1).bind fun t371 => (if t371 = 0 then (alarm_Raise.j0 k a1 a2 true a0_0 a0_1 a0_2 a0_3 a0_4 a0_5) else ((alarm_time.f a2).bind fun t372 => (alarm_Raise.j0 k a1 a2 (!t372) a0_0 a0_1 a0_2 a0_3 a0_4 a0_5)))) else (alarm_Raise.j0 k a1 a2 true a0_0 a0_1 a0_2 a0_3 a0_4 a0_5))) = some (r1, r2, r3, r4, r5, r6, r7) := h
  clear h
  have HC4 := Aside0.mk H
  clear H
  go_enter Try.func17, Try.ntmps17
  go_upto_region 1 with (first | ((with_reducible refine gate_dst (N := 3) rfl ?_); refine box_event ?hg (N := 3) ?hd (cs := #[.int .i64 a0_0, .int .i64 a0_1, .int .i64 a0_2, .int .i64 a0_3, .int .i64 a0_4, .int .i64 a0_5]) (t := 25) ?hr ?_; (case hd => rfl); (case hg => rfl); (case hr => first | (go_simp; done) | (go_simp; rfl)); intro gb368 hg w5 hbox hb; have n0_ := Aside0.mk (below_step (by repeat (first | (with_reducible first | exact HB.out | apply below_alloc | apply pw_below_drewN | apply below_drew1) | exact HB.out)) hb); have n1_ := Aside0.mk (hbox); have n2_ := Aside0.mk ((by rw [hg]; exact (below_size (by repeat (first | (with_reducible first | exact HB.out | apply below_alloc | apply pw_below_drewN | apply below_drew1) | exact HB.out))) : w.heap.size ≤ gb368)); have n3_ := Aside0.mk ((by rw [hg]; exact (below_size (by repeat (first | (with_reducible first | exact HB.out | apply below_alloc | apply pw_below_drewN | apply below_drew1) | exact HB.out))) : w.heap.size ≤ gb368)); clear HB; have HB := n0_; have BK368 := n1_; have GW368 := n2_; have GE368 := n3_; clear n0_ n1_ n2_ n3_; clear hb hbox hg) | ((with_reducible refine gate_dst (N := 6) rfl ?_); refine box_event ?hg (N := 6) ?hd (cs := #[.int .i64 0, .int .i64 0, .int .i64 0, .int .i64 0, .int .i64 0, .int .i64 0]) (t := 25) ?hr ?_; (case hd => rfl); (case hg => rfl); (case hr => first | (go_simp; done) | (go_simp; rfl)); intro gb369 hg w6 hbox hb; have n0_ := Aside0.mk (blk_below (g := gb368) (o := .cells #[.int .i64 a0_0, .int .i64 a0_1, .int .i64 a0_2, .int .i64 a0_3, .int .i64 a0_4, .int .i64 a0_5] 25 (0, 0)) (by (with_reducible repeat (first | refine blk_drewN ?_ _ | refine blk_drew ?_ | refine blk_alloc ?_ _)); exact BK368.out) hb); have n1_ := Aside0.mk (below_step (by repeat (first | (with_reducible first | exact HB.out | apply below_alloc | apply pw_below_drewN | apply below_drew1 | refine below_set ?_ GE368.out) | exact HB.out)) hb); have n2_ := Aside0.mk (hbox); have n3_ := Aside0.mk ((by rw [hg]; exact (below_size (by repeat (first | (with_reducible first | exact HB.out | apply below_alloc | apply pw_below_drewN | apply below_drew1 | refine below_set ?_ GE368.out) | exact HB.out))) : w.heap.size ≤ gb369)); have n4_ := Aside0.mk ((by rw [hg]; exact (below_size (by repeat (first | (with_reducible first | exact HB.out | apply below_alloc | apply pw_below_drewN | apply below_drew1 | refine below_set ?_ GE368.out) | exact HB.out))) : w.heap.size ≤ gb369)); have n5_ := Aside0.mk ((by rw [hg]; exact Nat.ne_of_lt (blk_lt (g := gb368) (o := .cells #[.int .i64 a0_0, .int .i64 a0_1, .int .i64 a0_2, .int .i64 a0_3, .int .i64 a0_4, .int .i64 a0_5] 25 (0, 0)) (by (with_reducible repeat (first | refine blk_drewN ?_ _ | refine blk_drew ?_ | refine blk_alloc ?_ _)); exact BK368.out)) : gb368 ≠ gb369)); have n6_ := Aside0.mk ((by rw [hg]; exact Nat.ne_of_gt (blk_lt (g := gb368) (o := .cells #[.int .i64 a0_0, .int .i64 a0_1, .int .i64 a0_2, .int .i64 a0_3, .int .i64 a0_4, .int .i64 a0_5] 25 (0, 0)) (by (with_reducible repeat (first | refine blk_drewN ?_ _ | refine blk_drew ?_ | refine blk_alloc ?_ _)); exact BK368.out)) : gb369 ≠ gb368)); clear BK368; clear HB; have BK368 := n0_; have HB := n1_; have BK369 := n2_; have GW369 := n3_; have GE369 := n4_; have NB368_369 := n5_; have NB369_368 := n6_; clear n0_ n1_ n2_ n3_ n4_ n5_ n6_; clear hb hbox hg))
  (try simp only [Act.put, List.setIfInBounds_toArray, List.set_cons_zero, List.set_cons_succ])
  go_cut [9] (fun v9 wc => ∃ (kq : Nat) (x9_3 : Bool), v9 = .bool x9_3 ∧ Aside0 (alarm_Raise.j0 kq a1 a2 x9_3 a0_0 a0_1 a0_2 a0_3 a0_4 a0_5 = some (r1, r2, r3, r4, r5, r6, r7)) ∧ Aside0 (kq ≤ k) ∧ Aside0 (wc.heap[gb368]? = some (.cells #[.int .i64 a0_0, .int .i64 a0_1, .int .i64 a0_2, .int .i64 a0_3, .int .i64 a0_4, .int .i64 a0_5] 25 (0, 0))) ∧ Aside0 (wc.heap[gb369]? = some (.cells #[.int .i64 0, .int .i64 0, .int .i64 0, .int .i64 0, .int .i64 0, .int .i64 0] 25 (0, 0))) ∧ Aside0 (Below w.heap.size w wc))
  case first =>
    have H := HC4.out
    clear HC4
    replace H := Option.bind_eq_some_iff.mp H
    obtain ⟨t370, A70, H⟩ := H
    replace H : (if t370 = true then ((alarm_Wait.f a1).bind fun t371 => (if t371 = 0 then (alarm_Raise.j0 k a1 a2 true a0_0 a0_1 a0_2 a0_3 a0_4 a0_5) else ((alarm_time.f a2).bind fun t372 => (alarm_Raise.j0 k a1 a2 (!t372) a0_0 a0_1 a0_2 a0_3 a0_4 a0_5)))) else (alarm_Raise.j0 k a1 a2 true a0_0 a0_1 a0_2 a0_3 a0_4 a0_5)) = some (r1, r2, r3, r4, r5, r6, r7) := H
    have A7 := Aside0.mk A70
    clear A70
    by_cases c8 : t370 = true
    · subst c8
      have H1 : ((alarm_Wait.f a1).bind fun t371 => (if t371 = 0 then (alarm_Raise.j0 k a1 a2 true a0_0 a0_1 a0_2 a0_3 a0_4 a0_5) else ((alarm_time.f a2).bind fun t372 => (alarm_Raise.j0 k a1 a2 (!t372) a0_0 a0_1 a0_2 a0_3 a0_4 a0_5)))) = some (r1, r2, r3, r4, r5, r6, r7) := by rw [if_pos rfl] at H; exact H
      clear H
      have H := H1
      clear H1
      replace H := Option.bind_eq_some_iff.mp H
      obtain ⟨t371, A90, H⟩ := H
      replace H : (if t371 = 0 then (alarm_Raise.j0 k a1 a2 true a0_0 a0_1 a0_2 a0_3 a0_4 a0_5) else ((alarm_time.f a2).bind fun t372 => (alarm_Raise.j0 k a1 a2 (!t372) a0_0 a0_1 a0_2 a0_3 a0_4 a0_5))) = some (r1, r2, r3, r4, r5, r6, r7) := H
      have A9 := Aside0.mk A90
      clear A90
      by_cases c10 : t371 = 0
      · rw [if_pos c10] at H
        have c10b0 : (t371 == 0) = true := beq_iff_eq.mpr c10
        have c10b1 : (t371 != 0) = false := bne_eq_false_iff_eq.mpr c10
        clear c10
        (first | rw [c10b0] | (simp only [i64_w, i32_w]; rw [c10b0]) | skip)
        have H' := Aside0.mk H
        clear H
        have hnb11 := NB368_369.out
        have hnc11 := NB369_368.out
        have hcz12_0 : w6.cell? ⟨gb368, 0, none⟩ = some (.int .i64 a0_0) := (blk_cell BK368.out 0).trans rfl
        have hcz12_1 : w6.cell? ⟨gb368, 1, none⟩ = some (.int .i64 a0_1) := (blk_cell BK368.out 1).trans rfl
        have hcz12_2 : w6.cell? ⟨gb368, 2, none⟩ = some (.int .i64 a0_2) := (blk_cell BK368.out 2).trans rfl
        have hcz12_3 : w6.cell? ⟨gb368, 3, none⟩ = some (.int .i64 a0_3) := (blk_cell BK368.out 3).trans rfl
        have hcz12_4 : w6.cell? ⟨gb368, 4, none⟩ = some (.int .i64 a0_4) := (blk_cell BK368.out 4).trans rfl
        have hcz12_5 : w6.cell? ⟨gb368, 5, none⟩ = some (.int .i64 a0_5) := (blk_cell BK368.out 5).trans rfl
        have hfz12_0 := blk_frozen BK368.out 0
        have hfz12_1 := blk_frozen BK368.out 1
        have hfz12_2 := blk_frozen BK368.out 2
        have hfz12_3 := blk_frozen BK368.out 3
        have hfz12_4 := blk_frozen BK368.out 4
        have hfz12_5 := blk_frozen BK368.out 5
        go_wp2_with (first | ((with_reducible refine gate_callee (f := 14) rfl ?_); refine goesL_ (some 11) rfl rfl Try.func14 (by kernel_rfl) rfl #[.agg #[.int .i64 a0_0, .int .i64 a0_1, .int .i64 a0_2, .int .i64 a0_3, .int .i64 a0_4, .int .i64 a0_5]] rfl (by (try simp only [List.map_toArray, List.map_cons, List.map_nil]); first | done | rfl | (simp only [List.length_drop, List.length_take]; rfl)) ?_; (with_reducible refine (alarm_Is.calls a0_0 a0_1 a0_2 a0_3 a0_4 a0_5 true _ A7.out).mono ?_); rintro e w13 ⟨rfl, hb⟩; refine ⟨_, rfl, ?_⟩; have n0_ := Aside0.mk (blk_below (g := gb368) (o := .cells #[.int .i64 a0_0, .int .i64 a0_1, .int .i64 a0_2, .int .i64 a0_3, .int .i64 a0_4, .int .i64 a0_5] 25 (0, 0)) (by (with_reducible repeat (first | refine blk_drewN ?_ _ | refine blk_drew ?_ | refine blk_alloc ?_ _)); exact BK368.out) hb); have n1_ := Aside0.mk (blk_below (g := gb369) (o := .cells #[.int .i64 0, .int .i64 0, .int .i64 0, .int .i64 0, .int .i64 0, .int .i64 0] 25 (0, 0)) (by (with_reducible repeat (first | refine blk_drewN ?_ _ | refine blk_drew ?_ | refine blk_alloc ?_ _)); exact BK369.out) hb); have n2_ := Aside0.mk (below_step (by repeat (first | (with_reducible first | exact HB.out | apply below_alloc | apply pw_below_drewN | apply below_drew1 | refine below_set ?_ GE368.out | refine below_set ?_ GE369.out) | exact HB.out)) hb); clear BK368; clear BK369; clear HB; have BK368 := n0_; have BK369 := n1_; have HB := n2_; clear n0_ n1_ n2_; (try clear hb); (try clear hb2); (try clear hk); (try clear hi)) | (go_at_call 20; (with_reducible refine (alarm_Wait.calls a1 t371 _ A9.out).mono ?_); rintro e w' ⟨rfl, ⟨nd, rfl⟩⟩))
        go_meet
        case rel => exact ⟨_, (true), (by first | rfl | (simp; done) | (simp [*]; done)), H', ⟨by first | omega | exact Nat.le_refl _⟩, ⟨by (with_reducible repeat (first | refine blk_drewN ?_ _ | refine blk_drew ?_ | refine blk_alloc ?_ _)); exact BK368.out⟩, ⟨by (with_reducible repeat (first | refine blk_drewN ?_ _ | refine blk_drew ?_ | refine blk_alloc ?_ _)); exact BK369.out⟩, ⟨by repeat (first | (with_reducible first | exact HB.out | apply below_alloc | apply pw_below_drewN | apply below_drew1 | refine below_set ?_ GE368.out | refine below_set ?_ GE369.out) | exact HB.out)⟩⟩
      · rw [if_neg c10] at H
        have c10b0 : (t371 == 0) = false := beq_eq_false_iff_ne.mpr c10
        have c10b1 : (t371 != 0) = true := bne_iff_ne.mpr c10
        (first | rw [c10b0] | (simp only [i64_w, i32_w]; rw [c10b0]) | skip)
        replace H := Option.bind_eq_some_iff.mp H
        obtain ⟨t372, A140, H⟩ := H
        replace H : (alarm_Raise.j0 k a1 a2 (!t372) a0_0 a0_1 a0_2 a0_3 a0_4 a0_5) = some (r1, r2, r3, r4, r5, r6, r7) := H
        have A14 := Aside0.mk A140
        clear A140
        have H' := Aside0.mk H
        clear H
        have hnb15 := NB368_369.out
        have hnc15 := NB369_368.out
        have hcz16_0 : w6.cell? ⟨gb368, 0, none⟩ = some (.int .i64 a0_0) := (blk_cell BK368.out 0).trans rfl
        have hcz16_1 : w6.cell? ⟨gb368, 1, none⟩ = some (.int .i64 a0_1) := (blk_cell BK368.out 1).trans rfl
        have hcz16_2 : w6.cell? ⟨gb368, 2, none⟩ = some (.int .i64 a0_2) := (blk_cell BK368.out 2).trans rfl
        have hcz16_3 : w6.cell? ⟨gb368, 3, none⟩ = some (.int .i64 a0_3) := (blk_cell BK368.out 3).trans rfl
        have hcz16_4 : w6.cell? ⟨gb368, 4, none⟩ = some (.int .i64 a0_4) := (blk_cell BK368.out 4).trans rfl
        have hcz16_5 : w6.cell? ⟨gb368, 5, none⟩ = some (.int .i64 a0_5) := (blk_cell BK368.out 5).trans rfl
        have hfz16_0 := blk_frozen BK368.out 0
        have hfz16_1 := blk_frozen BK368.out 1
        have hfz16_2 := blk_frozen BK368.out 2
        have hfz16_3 := blk_frozen BK368.out 3
        have hfz16_4 := blk_frozen BK368.out 4
        have hfz16_5 := blk_frozen BK368.out 5
        go_wp2_with (first | ((with_reducible refine gate_callee (f := 14) rfl ?_); refine goesL_ (some 11) rfl rfl Try.func14 (by kernel_rfl) rfl #[.agg #[.int .i64 a0_0, .int .i64 a0_1, .int .i64 a0_2, .int .i64 a0_3, .int .i64 a0_4, .int .i64 a0_5]] rfl (by (try simp only [List.map_toArray, List.map_cons, List.map_nil]); first | done | rfl | (simp only [List.length_drop, List.length_take]; rfl)) ?_; (with_reducible refine (alarm_Is.calls a0_0 a0_1 a0_2 a0_3 a0_4 a0_5 true _ A7.out).mono ?_); rintro e w17 ⟨rfl, hb⟩; refine ⟨_, rfl, ?_⟩; have n0_ := Aside0.mk (blk_below (g := gb368) (o := .cells #[.int .i64 a0_0, .int .i64 a0_1, .int .i64 a0_2, .int .i64 a0_3, .int .i64 a0_4, .int .i64 a0_5] 25 (0, 0)) (by (with_reducible repeat (first | refine blk_drewN ?_ _ | refine blk_drew ?_ | refine blk_alloc ?_ _)); exact BK368.out) hb); have n1_ := Aside0.mk (blk_below (g := gb369) (o := .cells #[.int .i64 0, .int .i64 0, .int .i64 0, .int .i64 0, .int .i64 0, .int .i64 0] 25 (0, 0)) (by (with_reducible repeat (first | refine blk_drewN ?_ _ | refine blk_drew ?_ | refine blk_alloc ?_ _)); exact BK369.out) hb); have n2_ := Aside0.mk (below_step (by repeat (first | (with_reducible first | exact HB.out | apply below_alloc | apply pw_below_drewN | apply below_drew1 | refine below_set ?_ GE368.out | refine below_set ?_ GE369.out) | exact HB.out)) hb); clear BK368; clear BK369; clear HB; have BK368 := n0_; have BK369 := n1_; have HB := n2_; clear n0_ n1_ n2_; (try clear hb); (try clear hb2); (try clear hk); (try clear hi)) | (go_at_call 20; (with_reducible refine (alarm_Wait.calls a1 t371 _ A9.out).mono ?_); rintro e w' ⟨rfl, ⟨nd, rfl⟩⟩) | (go_at_call 26; (with_reducible refine (alarm_time.calls a2 t372 _ A14.out).mono ?_); rintro e w' ⟨rfl, ⟨nd, rfl⟩⟩))
        go_meet
        case rel => exact ⟨_, (!t372), (by first | rfl | (simp; done) | (simp [*]; done)), H', ⟨by first | omega | exact Nat.le_refl _⟩, ⟨by (with_reducible repeat (first | refine blk_drewN ?_ _ | refine blk_drew ?_ | refine blk_alloc ?_ _)); exact BK368.out⟩, ⟨by (with_reducible repeat (first | refine blk_drewN ?_ _ | refine blk_drew ?_ | refine blk_alloc ?_ _)); exact BK369.out⟩, ⟨by repeat (first | (with_reducible first | exact HB.out | apply below_alloc | apply pw_below_drewN | apply below_drew1 | refine below_set ?_ GE368.out | refine below_set ?_ GE369.out) | exact HB.out)⟩⟩
    · replace c8 := Bool.eq_false_iff.mpr c8
      subst c8
      have H1 : (alarm_Raise.j0 k a1 a2 true a0_0 a0_1 a0_2 a0_3 a0_4 a0_5) = some (r1, r2, r3, r4, r5, r6, r7) := by rw [if_neg (show ¬ (false = true) by decide)] at H; exact H
      clear H
      have H := H1
      clear H1
      have H' := Aside0.mk H
      clear H
      have hnb18 := NB368_369.out
      have hnc18 := NB369_368.out
      have hcz19_0 : w6.cell? ⟨gb368, 0, none⟩ = some (.int .i64 a0_0) := (blk_cell BK368.out 0).trans rfl
      have hcz19_1 : w6.cell? ⟨gb368, 1, none⟩ = some (.int .i64 a0_1) := (blk_cell BK368.out 1).trans rfl
      have hcz19_2 : w6.cell? ⟨gb368, 2, none⟩ = some (.int .i64 a0_2) := (blk_cell BK368.out 2).trans rfl
      have hcz19_3 : w6.cell? ⟨gb368, 3, none⟩ = some (.int .i64 a0_3) := (blk_cell BK368.out 3).trans rfl
      have hcz19_4 : w6.cell? ⟨gb368, 4, none⟩ = some (.int .i64 a0_4) := (blk_cell BK368.out 4).trans rfl
      have hcz19_5 : w6.cell? ⟨gb368, 5, none⟩ = some (.int .i64 a0_5) := (blk_cell BK368.out 5).trans rfl
      have hfz19_0 := blk_frozen BK368.out 0
      have hfz19_1 := blk_frozen BK368.out 1
      have hfz19_2 := blk_frozen BK368.out 2
      have hfz19_3 := blk_frozen BK368.out 3
      have hfz19_4 := blk_frozen BK368.out 4
      have hfz19_5 := blk_frozen BK368.out 5
      go_wp2_with (first | ((with_reducible refine gate_callee (f := 14) rfl ?_); refine goesL_ (some 11) rfl rfl Try.func14 (by kernel_rfl) rfl #[.agg #[.int .i64 a0_0, .int .i64 a0_1, .int .i64 a0_2, .int .i64 a0_3, .int .i64 a0_4, .int .i64 a0_5]] rfl (by (try simp only [List.map_toArray, List.map_cons, List.map_nil]); first | done | rfl | (simp only [List.length_drop, List.length_take]; rfl)) ?_; (with_reducible refine (alarm_Is.calls a0_0 a0_1 a0_2 a0_3 a0_4 a0_5 false _ A7.out).mono ?_); rintro e w20 ⟨rfl, hb⟩; refine ⟨_, rfl, ?_⟩; have n0_ := Aside0.mk (blk_below (g := gb368) (o := .cells #[.int .i64 a0_0, .int .i64 a0_1, .int .i64 a0_2, .int .i64 a0_3, .int .i64 a0_4, .int .i64 a0_5] 25 (0, 0)) (by (with_reducible repeat (first | refine blk_drewN ?_ _ | refine blk_drew ?_ | refine blk_alloc ?_ _)); exact BK368.out) hb); have n1_ := Aside0.mk (blk_below (g := gb369) (o := .cells #[.int .i64 0, .int .i64 0, .int .i64 0, .int .i64 0, .int .i64 0, .int .i64 0] 25 (0, 0)) (by (with_reducible repeat (first | refine blk_drewN ?_ _ | refine blk_drew ?_ | refine blk_alloc ?_ _)); exact BK369.out) hb); have n2_ := Aside0.mk (below_step (by repeat (first | (with_reducible first | exact HB.out | apply below_alloc | apply pw_below_drewN | apply below_drew1 | refine below_set ?_ GE368.out | refine below_set ?_ GE369.out) | exact HB.out)) hb); clear BK368; clear BK369; clear HB; have BK368 := n0_; have BK369 := n1_; have HB := n2_; clear n0_ n1_ n2_; (try clear hb); (try clear hb2); (try clear hk); (try clear hi)))
      go_meet
      case rel => exact ⟨_, (true), (by first | rfl | (simp; done) | (simp [*]; done)), H', ⟨by first | omega | exact Nat.le_refl _⟩, ⟨by (with_reducible repeat (first | refine blk_drewN ?_ _ | refine blk_drew ?_ | refine blk_alloc ?_ _)); exact BK368.out⟩, ⟨by (with_reducible repeat (first | refine blk_drewN ?_ _ | refine blk_drew ?_ | refine blk_alloc ?_ _)); exact BK369.out⟩, ⟨by repeat (first | (with_reducible first | exact HB.out | apply below_alloc | apply pw_below_drewN | apply below_drew1 | refine below_set ?_ GE368.out | refine below_set ?_ GE369.out) | exact HB.out)⟩⟩
  case rest =>
    clear HC4
    try clear c1
    try clear p2
    try clear c8
    try clear c10
    try clear c10b0
    try clear c10b1
    try clear c11
    try clear c14
    try clear c15
    try clear c17
    try clear c18
    try clear hcz12_0
    try clear hcz12_1
    try clear hcz12_2
    try clear hcz12_3
    try clear hcz12_4
    try clear hcz12_5
    try clear hcz16_0
    try clear hcz16_1
    try clear hcz16_2
    try clear hcz16_3
    try clear hcz16_4
    try clear hcz16_5
    try clear hcz19_0
    try clear hcz19_1
    try clear hcz19_2
    try clear hcz19_3
    try clear hcz19_4
    try clear hcz19_5
    try clear hfz12_0
    try clear hfz12_1
    try clear hfz12_2
    try clear hfz12_3
    try clear hfz12_4
    try clear hfz12_5
    try clear hfz16_0
    try clear hfz16_1
    try clear hfz16_2
    try clear hfz16_3
    try clear hfz16_4
    try clear hfz16_5
    try clear hfz19_0
    try clear hfz19_1
    try clear hfz19_2
    try clear hfz19_3
    try clear hfz19_4
    try clear hfz19_5
    obtain ⟨kq, x9_3, rfl, HA, HJ3, BK368, BK369, HB⟩ := hcut
    cases kq with
    | zero => exact absurd HA.out (by simp [alarm_Raise.j0])
    | succ kj3 =>
      have H := HA.out
      clear HA
      simp only [alarm_Raise.j0] at H
      by_cases c21 : x9_3 = true
      · subst c21
        have H1 : (some (0, 0, 0, 0, 0, 0, 1)) = some (r1, r2, r3, r4, r5, r6, r7) := by rw [if_pos rfl] at H; exact H
        clear H
        have H := H1
        clear H1
        simp only [Option.some.injEq, Prod.mk.injEq] at H
        obtain ⟨rfl, rfl, rfl, rfl, rfl, rfl, rfl⟩ := H
        have hnb22 := NB369_368.out
        have hnc22 := NB368_369.out
        have hcz23_0 : wc.cell? ⟨gb369, 0, none⟩ = some (.int .i64 0) := (blk_cell BK369.out 0).trans rfl
        have hcz23_1 : wc.cell? ⟨gb369, 1, none⟩ = some (.int .i64 0) := (blk_cell BK369.out 1).trans rfl
        have hcz23_2 : wc.cell? ⟨gb369, 2, none⟩ = some (.int .i64 0) := (blk_cell BK369.out 2).trans rfl
        have hcz23_3 : wc.cell? ⟨gb369, 3, none⟩ = some (.int .i64 0) := (blk_cell BK369.out 3).trans rfl
        have hcz23_4 : wc.cell? ⟨gb369, 4, none⟩ = some (.int .i64 0) := (blk_cell BK369.out 4).trans rfl
        have hcz23_5 : wc.cell? ⟨gb369, 5, none⟩ = some (.int .i64 0) := (blk_cell BK369.out 5).trans rfl
        have hfz23_0 := blk_frozen BK369.out 0
        have hfz23_1 := blk_frozen BK369.out 1
        have hfz23_2 := blk_frozen BK369.out 2
        have hfz23_3 := blk_frozen BK369.out 3
        have hfz23_4 := blk_frozen BK369.out 4
        have hfz23_5 := blk_frozen BK369.out 5
        go_wp2
        refine bodyPost_ret (results_ct rfl _ _ gb369 25 #[.int .i64 0, .int .i64 0, .int .i64 0, .int .i64 0, .int .i64 0, .int .i64 0] (0, 0) _ rfl (by (with_reducible repeat (first | refine blk_drewN ?_ _ | refine blk_drew ?_ | refine blk_alloc ?_ _)); refine blk_put (cs := #[.int .i64 0, .int .i64 0, .int .i64 0, .int .i64 0, .int .i64 0, .int .i64 0]) ?_ 5 _ rfl; (with_reducible repeat (first | refine blk_drewN ?_ _ | refine blk_drew ?_ | refine blk_alloc ?_ _)); refine blk_put (cs := #[.int .i64 0, .int .i64 0, .int .i64 0, .int .i64 0, .int .i64 0, .int .i64 0]) ?_ 4 _ rfl; (with_reducible repeat (first | refine blk_drewN ?_ _ | refine blk_drew ?_ | refine blk_alloc ?_ _)); refine blk_put (cs := #[.int .i64 0, .int .i64 0, .int .i64 0, .int .i64 0, .int .i64 0, .int .i64 0]) ?_ 3 _ rfl; (with_reducible repeat (first | refine blk_drewN ?_ _ | refine blk_drew ?_ | refine blk_alloc ?_ _)); refine blk_put (cs := #[.int .i64 0, .int .i64 0, .int .i64 0, .int .i64 0, .int .i64 0, .int .i64 0]) ?_ 2 _ rfl; (with_reducible repeat (first | refine blk_drewN ?_ _ | refine blk_drew ?_ | refine blk_alloc ?_ _)); refine blk_put (cs := #[.int .i64 0, .int .i64 0, .int .i64 0, .int .i64 0, .int .i64 0, .int .i64 0]) ?_ 1 _ rfl; (with_reducible repeat (first | refine blk_drewN ?_ _ | refine blk_drew ?_ | refine blk_alloc ?_ _)); refine blk_put (cs := #[.int .i64 0, .int .i64 0, .int .i64 0, .int .i64 0, .int .i64 0, .int .i64 0]) ?_ 0 _ rfl; (with_reducible repeat (first | refine blk_drewN ?_ _ | refine blk_drew ?_ | refine blk_alloc ?_ _)); exact BK369.out) Try.underlying25 rfl (by kernel_rfl)) rfl ?_
        exact ⟨by first | rfl | (simp [errW_none, errW_some] <;> rfl) | (simp [*, errW_none, errW_some] <;> rfl), by repeat (first | (with_reducible first | exact HB.out | apply below_alloc | apply pw_below_drewN | apply below_drew1 | refine below_set ?_ GE368.out | refine below_set ?_ GE369.out) | exact HB.out)⟩
      · replace c21 := Bool.eq_false_iff.mpr c21
        subst c21
        have H1 : (if a2 < a0_4 then (some (0, 0, 0, 0, 0, 0, 62)) else (if a0_2 = 3 then ((alarm_Wait.f (mn a0_3 a1)).bind fun t373 => (some (a0_0, a0_1, 1, mn a0_3 a1, a2, wrap64 (a2 + t373), 0))) else (if a0_2 = 1 then (if a1 < a0_3 then ((alarm_Wait.f (mn a0_3 a1)).bind fun t374 => (some (a0_0, a0_1, a0_2, mn a0_3 a1, a0_4, mx (mn a0_5 (wrap64 (a2 + t374))) a0_4, 0))) else (some (a0_0, a0_1, a0_2, mn a0_3 a1, a0_4, a0_5, 0))) else (some (a0_0, a0_1, a0_2, mn a0_3 a1, a0_4, a0_5, 0))))) = some (r1, r2, r3, r4, r5, r6, r7) := by rw [if_neg (show ¬ (false = true) by decide)] at H; exact H
        clear H
        have H := H1
        clear H1
        by_cases c24 : a2 < a0_4
        · rw [if_pos c24] at H
          have c24b0 : decide (a2 < a0_4) = true := decide_eq_true c24
          clear c24
          simp only [Option.some.injEq, Prod.mk.injEq] at H
          obtain ⟨rfl, rfl, rfl, rfl, rfl, rfl, rfl⟩ := H
          have hnb25 := NB368_369.out
          have hnc25 := NB369_368.out
          have hcz26_0 : wc.cell? ⟨gb368, 0, none⟩ = some (.int .i64 a0_0) := (blk_cell BK368.out 0).trans rfl
          have hcz26_1 : wc.cell? ⟨gb368, 1, none⟩ = some (.int .i64 a0_1) := (blk_cell BK368.out 1).trans rfl
          have hcz26_2 : wc.cell? ⟨gb368, 2, none⟩ = some (.int .i64 a0_2) := (blk_cell BK368.out 2).trans rfl
          have hcz26_3 : wc.cell? ⟨gb368, 3, none⟩ = some (.int .i64 a0_3) := (blk_cell BK368.out 3).trans rfl
          have hcz26_4 : wc.cell? ⟨gb368, 4, none⟩ = some (.int .i64 a0_4) := (blk_cell BK368.out 4).trans rfl
          have hcz26_5 : wc.cell? ⟨gb368, 5, none⟩ = some (.int .i64 a0_5) := (blk_cell BK368.out 5).trans rfl
          have hfz26_0 := blk_frozen BK368.out 0
          have hfz26_1 := blk_frozen BK368.out 1
          have hfz26_2 := blk_frozen BK368.out 2
          have hfz26_3 := blk_frozen BK368.out 3
          have hfz26_4 := blk_frozen BK368.out 4
          have hfz26_5 := blk_frozen BK368.out 5
          have hcz27_0 : wc.cell? ⟨gb369, 0, none⟩ = some (.int .i64 0) := (blk_cell BK369.out 0).trans rfl
          have hcz27_1 : wc.cell? ⟨gb369, 1, none⟩ = some (.int .i64 0) := (blk_cell BK369.out 1).trans rfl
          have hcz27_2 : wc.cell? ⟨gb369, 2, none⟩ = some (.int .i64 0) := (blk_cell BK369.out 2).trans rfl
          have hcz27_3 : wc.cell? ⟨gb369, 3, none⟩ = some (.int .i64 0) := (blk_cell BK369.out 3).trans rfl
          have hcz27_4 : wc.cell? ⟨gb369, 4, none⟩ = some (.int .i64 0) := (blk_cell BK369.out 4).trans rfl
          have hcz27_5 : wc.cell? ⟨gb369, 5, none⟩ = some (.int .i64 0) := (blk_cell BK369.out 5).trans rfl
          have hfz27_0 := blk_frozen BK369.out 0
          have hfz27_1 := blk_frozen BK369.out 1
          have hfz27_2 := blk_frozen BK369.out 2
          have hfz27_3 := blk_frozen BK369.out 3
          have hfz27_4 := blk_frozen BK369.out 4
          have hfz27_5 := blk_frozen BK369.out 5
          go_wp2
          refine bodyPost_ret (results_ct rfl _ _ gb369 25 #[.int .i64 0, .int .i64 0, .int .i64 0, .int .i64 0, .int .i64 0, .int .i64 0] (0, 0) _ rfl (by (with_reducible repeat (first | refine blk_drewN ?_ _ | refine blk_drew ?_ | refine blk_alloc ?_ _)); refine blk_put (cs := #[.int .i64 0, .int .i64 0, .int .i64 0, .int .i64 0, .int .i64 0, .int .i64 0]) ?_ 5 _ rfl; (with_reducible repeat (first | refine blk_drewN ?_ _ | refine blk_drew ?_ | refine blk_alloc ?_ _)); refine blk_put (cs := #[.int .i64 0, .int .i64 0, .int .i64 0, .int .i64 0, .int .i64 0, .int .i64 0]) ?_ 4 _ rfl; (with_reducible repeat (first | refine blk_drewN ?_ _ | refine blk_drew ?_ | refine blk_alloc ?_ _)); refine blk_put (cs := #[.int .i64 0, .int .i64 0, .int .i64 0, .int .i64 0, .int .i64 0, .int .i64 0]) ?_ 3 _ rfl; (with_reducible repeat (first | refine blk_drewN ?_ _ | refine blk_drew ?_ | refine blk_alloc ?_ _)); refine blk_put (cs := #[.int .i64 0, .int .i64 0, .int .i64 0, .int .i64 0, .int .i64 0, .int .i64 0]) ?_ 2 _ rfl; (with_reducible repeat (first | refine blk_drewN ?_ _ | refine blk_drew ?_ | refine blk_alloc ?_ _)); refine blk_put (cs := #[.int .i64 0, .int .i64 0, .int .i64 0, .int .i64 0, .int .i64 0, .int .i64 0]) ?_ 1 _ rfl; (with_reducible repeat (first | refine blk_drewN ?_ _ | refine blk_drew ?_ | refine blk_alloc ?_ _)); refine blk_put (cs := #[.int .i64 0, .int .i64 0, .int .i64 0, .int .i64 0, .int .i64 0, .int .i64 0]) ?_ 0 _ rfl; (with_reducible repeat (first | refine blk_drewN ?_ _ | refine blk_drew ?_ | refine blk_alloc ?_ _)); exact BK369.out) Try.underlying25 rfl (by kernel_rfl)) rfl ?_
          exact ⟨by first | rfl | (simp [errW_none, errW_some] <;> rfl) | (simp [*, errW_none, errW_some] <;> rfl), by repeat (first | (with_reducible first | exact HB.out | apply below_alloc | apply pw_below_drewN | apply below_drew1 | refine below_set ?_ GE368.out | refine below_set ?_ GE369.out) | exact HB.out)⟩
        · rw [if_neg c24] at H
          have c24b0 : decide (a2 < a0_4) = false := decide_eq_false c24
          clear c24
          obtain ⟨ji28, hji28⟩ : ∃ j_ : Int, (mn a0_3 a1) = j_ := ⟨_, rfl⟩
          replace H : (if a0_2 = 3 then ((alarm_Wait.f (ji28)).bind fun t373 => (some (a0_0, a0_1, 1, ji28, a2, wrap64 (a2 + t373), 0))) else (if a0_2 = 1 then (if a1 < a0_3 then ((alarm_Wait.f (ji28)).bind fun t374 => (some (a0_0, a0_1, a0_2, ji28, a0_4, mx (mn a0_5 (wrap64 (a2 + t374))) a0_4, 0))) else (some (a0_0, a0_1, a0_2, ji28, a0_4, a0_5, 0))) else (some (a0_0, a0_1, a0_2, ji28, a0_4, a0_5, 0)))) = some (r1, r2, r3, r4, r5, r6, r7) := by first | (rw [hji28] at H; exact H) | (simp only [hji28] at H ⊢; exact H)
          have hji28_ : (if a1 < a0_3 then a1 else a0_3) = ji28 := hji28
          by_cases c29 : a0_2 = 3
          · rw [if_pos c29] at H
            have c29b0 : (a0_2 == 3) = true := beq_iff_eq.mpr c29
            have c29b1 : (a0_2 != 3) = false := bne_eq_false_iff_eq.mpr c29
            clear c29
            replace H := Option.bind_eq_some_iff.mp H
            obtain ⟨t373, A300, H⟩ := H
            replace H : (some (a0_0, a0_1, 1, ji28, a2, wrap64 (a2 + t373), 0)) = some (r1, r2, r3, r4, r5, r6, r7) := H
            have A30 := Aside0.mk A300
            clear A300
            simp only [Option.some.injEq, Prod.mk.injEq] at H
            obtain ⟨rfl, rfl, rfl, rfl, rfl, rfl, rfl⟩ := H
            have hnb31 := NB368_369.out
            have hnc31 := NB369_368.out
            have hcz32_0 : wc.cell? ⟨gb368, 0, none⟩ = some (.int .i64 a0_0) := (blk_cell BK368.out 0).trans rfl
            have hcz32_1 : wc.cell? ⟨gb368, 1, none⟩ = some (.int .i64 a0_1) := (blk_cell BK368.out 1).trans rfl
            have hcz32_2 : wc.cell? ⟨gb368, 2, none⟩ = some (.int .i64 a0_2) := (blk_cell BK368.out 2).trans rfl
            have hcz32_3 : wc.cell? ⟨gb368, 3, none⟩ = some (.int .i64 a0_3) := (blk_cell BK368.out 3).trans rfl
            have hcz32_4 : wc.cell? ⟨gb368, 4, none⟩ = some (.int .i64 a0_4) := (blk_cell BK368.out 4).trans rfl
            have hcz32_5 : wc.cell? ⟨gb368, 5, none⟩ = some (.int .i64 a0_5) := (blk_cell BK368.out 5).trans rfl
            have hfz32_0 := blk_frozen BK368.out 0
            have hfz32_1 := blk_frozen BK368.out 1
            have hfz32_2 := blk_frozen BK368.out 2
            have hfz32_3 := blk_frozen BK368.out 3
            have hfz32_4 := blk_frozen BK368.out 4
            have hfz32_5 := blk_frozen BK368.out 5
            go_wp2_with (first | ((with_reducible refine gate_callee (f := 20) rfl ?_); refine goesL_ (some 47) rfl rfl Try.func20 (by kernel_rfl) rfl #[.int .i64 ji28] rfl (by (try simp only [List.map_toArray, List.map_cons, List.map_nil]); first | done | (simp only [hji28]; rfl) | rfl | (simp only [List.length_drop, List.length_take]; rfl)) ?_; (with_reducible refine (alarm_Wait.calls ji28 t373 _ A30.out).mono ?_); rintro e w' ⟨rfl, ⟨nd, rfl⟩⟩; refine ⟨_, rfl, ?_⟩; have hcz33_0 : wc.cell? ⟨gb369, 0, none⟩ = some (.int .i64 0) := (blk_cell BK369.out 0).trans rfl; have hcz33_1 : wc.cell? ⟨gb369, 1, none⟩ = some (.int .i64 0) := (blk_cell BK369.out 1).trans rfl; have hcz33_2 : wc.cell? ⟨gb369, 2, none⟩ = some (.int .i64 0) := (blk_cell BK369.out 2).trans rfl; have hcz33_3 : wc.cell? ⟨gb369, 3, none⟩ = some (.int .i64 0) := (blk_cell BK369.out 3).trans rfl; have hcz33_4 : wc.cell? ⟨gb369, 4, none⟩ = some (.int .i64 0) := (blk_cell BK369.out 4).trans rfl; have hcz33_5 : wc.cell? ⟨gb369, 5, none⟩ = some (.int .i64 0) := (blk_cell BK369.out 5).trans rfl; have hfz33_0 := blk_frozen BK369.out 0; have hfz33_1 := blk_frozen BK369.out 1; have hfz33_2 := blk_frozen BK369.out 2; have hfz33_3 := blk_frozen BK369.out 3; have hfz33_4 := blk_frozen BK369.out 4; have hfz33_5 := blk_frozen BK369.out 5))
            refine bodyPost_ret (results_ct rfl _ _ gb369 25 #[.int .i64 a0_0, .int .i64 a0_1, .int .i64 1, .int .i64 ji28, .int .i64 a2, .int .i64 (wrap64 (a2 + t373))] (0, 0) _ rfl (by (with_reducible repeat (first | refine blk_drewN ?_ _ | refine blk_drew ?_ | refine blk_alloc ?_ _)); refine blk_put (cs := #[.int .i64 a0_0, .int .i64 a0_1, .int .i64 1, .int .i64 ji28, .int .i64 a2, .int .i64 0]) ?_ 5 _ rfl; (with_reducible repeat (first | refine blk_drewN ?_ _ | refine blk_drew ?_ | refine blk_alloc ?_ _)); refine blk_put (cs := #[.int .i64 a0_0, .int .i64 a0_1, .int .i64 1, .int .i64 ji28, .int .i64 0, .int .i64 0]) ?_ 4 _ rfl; (with_reducible repeat (first | refine blk_drewN ?_ _ | refine blk_drew ?_ | refine blk_alloc ?_ _)); refine blk_put (cs := #[.int .i64 a0_0, .int .i64 a0_1, .int .i64 1, .int .i64 0, .int .i64 0, .int .i64 0]) ?_ 3 _ rfl; (with_reducible repeat (first | refine blk_drewN ?_ _ | refine blk_drew ?_ | refine blk_alloc ?_ _)); refine blk_put (cs := #[.int .i64 a0_0, .int .i64 a0_1, .int .i64 0, .int .i64 0, .int .i64 0, .int .i64 0]) ?_ 2 _ rfl; (with_reducible repeat (first | refine blk_drewN ?_ _ | refine blk_drew ?_ | refine blk_alloc ?_ _)); refine blk_put (cs := #[.int .i64 a0_0, .int .i64 0, .int .i64 0, .int .i64 0, .int .i64 0, .int .i64 0]) ?_ 1 _ rfl; (with_reducible repeat (first | refine blk_drewN ?_ _ | refine blk_drew ?_ | refine blk_alloc ?_ _)); refine blk_put (cs := #[.int .i64 0, .int .i64 0, .int .i64 0, .int .i64 0, .int .i64 0, .int .i64 0]) ?_ 0 _ rfl; (with_reducible repeat (first | refine blk_drewN ?_ _ | refine blk_drew ?_ | refine blk_alloc ?_ _)); refine blk_far ?_ NB369_368.out _; (with_reducible repeat (first | refine blk_drewN ?_ _ | refine blk_drew ?_ | refine blk_alloc ?_ _)); refine blk_far ?_ NB369_368.out _; (with_reducible repeat (first | refine blk_drewN ?_ _ | refine blk_drew ?_ | refine blk_alloc ?_ _)); refine blk_far ?_ NB369_368.out _; (with_reducible repeat (first | refine blk_drewN ?_ _ | refine blk_drew ?_ | refine blk_alloc ?_ _)); refine blk_far ?_ NB369_368.out _; (with_reducible repeat (first | refine blk_drewN ?_ _ | refine blk_drew ?_ | refine blk_alloc ?_ _)); exact BK369.out) Try.underlying25 rfl (by kernel_rfl)) rfl ?_
            exact ⟨by first | rfl | (simp [errW_none, errW_some] <;> rfl) | (simp only [← hji28]; first | rfl | (simp [errW_none, errW_some] <;> rfl)) | (simp [*, errW_none, errW_some] <;> rfl), by repeat (first | (with_reducible first | exact HB.out | apply below_alloc | apply pw_below_drewN | apply below_drew1 | refine below_set ?_ GE368.out | refine below_set ?_ GE369.out) | exact HB.out)⟩
          · rw [if_neg c29] at H
            have c29b0 : (a0_2 == 3) = false := beq_eq_false_iff_ne.mpr c29
            have c29b1 : (a0_2 != 3) = true := bne_iff_ne.mpr c29
            by_cases c34 : a0_2 = 1
            · rw [if_pos c34] at H
              have c34b0 : (a0_2 == 1) = true := beq_iff_eq.mpr c34
              have c34b1 : (a0_2 != 1) = false := bne_eq_false_iff_eq.mpr c34
              clear c34
              by_cases c35 : a1 < a0_3
              · rw [if_pos c35] at H
                have c35b0 : decide (a1 < a0_3) = true := decide_eq_true c35
                clear c35
                replace H := Option.bind_eq_some_iff.mp H
                obtain ⟨t374, A360, H⟩ := H
                replace H : (some (a0_0, a0_1, a0_2, ji28, a0_4, mx (mn a0_5 (wrap64 (a2 + t374))) a0_4, 0)) = some (r1, r2, r3, r4, r5, r6, r7) := H
                have A36 := Aside0.mk A360
                clear A360
                obtain ⟨ji37, hji37⟩ : ∃ j_ : Int, (mn a0_5 (wrap64 (a2 + t374))) = j_ := ⟨_, rfl⟩
                replace H : (some (a0_0, a0_1, a0_2, ji28, a0_4, mx (ji37) a0_4, 0)) = some (r1, r2, r3, r4, r5, r6, r7) := by first | (rw [hji37] at H; exact H) | (simp only [hji37] at H ⊢; exact H)
                (try rw [hji37] at A36)
                have hji37_ : (if (wrap64 (a2 + t374)) < a0_5 then (wrap64 (a2 + t374)) else a0_5) = ji37 := hji37
                obtain ⟨ji38, hji38⟩ : ∃ j_ : Int, (mx (ji37) a0_4) = j_ := ⟨_, rfl⟩
                replace H : (some (a0_0, a0_1, a0_2, ji28, a0_4, ji38, 0)) = some (r1, r2, r3, r4, r5, r6, r7) := by first | (rw [hji38] at H; exact H) | (simp only [hji38] at H ⊢; exact H)
                (try rw [hji38] at A36)
                have hji38_ : (if (ji37) < a0_4 then a0_4 else (ji37)) = ji38 := hji38
                simp only [Option.some.injEq, Prod.mk.injEq] at H
                obtain ⟨rfl, rfl, rfl, rfl, rfl, rfl, rfl⟩ := H
                have hnb39 := NB368_369.out
                have hnc39 := NB369_368.out
                have hcz40_0 : wc.cell? ⟨gb368, 0, none⟩ = some (.int .i64 a0_0) := (blk_cell BK368.out 0).trans rfl
                have hcz40_1 : wc.cell? ⟨gb368, 1, none⟩ = some (.int .i64 a0_1) := (blk_cell BK368.out 1).trans rfl
                have hcz40_2 : wc.cell? ⟨gb368, 2, none⟩ = some (.int .i64 a0_2) := (blk_cell BK368.out 2).trans rfl
                have hcz40_3 : wc.cell? ⟨gb368, 3, none⟩ = some (.int .i64 a0_3) := (blk_cell BK368.out 3).trans rfl
                have hcz40_4 : wc.cell? ⟨gb368, 4, none⟩ = some (.int .i64 a0_4) := (blk_cell BK368.out 4).trans rfl
                have hcz40_5 : wc.cell? ⟨gb368, 5, none⟩ = some (.int .i64 a0_5) := (blk_cell BK368.out 5).trans rfl
                have hfz40_0 := blk_frozen BK368.out 0
                have hfz40_1 := blk_frozen BK368.out 1
                have hfz40_2 := blk_frozen BK368.out 2
                have hfz40_3 := blk_frozen BK368.out 3
                have hfz40_4 := blk_frozen BK368.out 4
                have hfz40_5 := blk_frozen BK368.out 5
                try go_wp2
                have n0_ : Aside0 ((wc.setCell ⟨gb368, 3, none⟩ (.int .i64 ji28)).heap[gb368]? = some (.cells #[.int .i64 a0_0, .int .i64 a0_1, .int .i64 a0_2, .int .i64 ji28, .int .i64 a0_4, .int .i64 a0_5] 25 (0, 0))) := ⟨by (with_reducible repeat (first | refine blk_drewN ?_ _ | refine blk_drew ?_ | refine blk_alloc ?_ _)); refine blk_put (cs := #[.int .i64 a0_0, .int .i64 a0_1, .int .i64 a0_2, .int .i64 a0_3, .int .i64 a0_4, .int .i64 a0_5]) ?_ 3 _ rfl; (with_reducible repeat (first | refine blk_drewN ?_ _ | refine blk_drew ?_ | refine blk_alloc ?_ _)); exact BK368.out⟩
                have n1_ : Aside0 ((wc.setCell ⟨gb368, 3, none⟩ (.int .i64 ji28)).heap[gb369]? = some (.cells #[.int .i64 0, .int .i64 0, .int .i64 0, .int .i64 0, .int .i64 0, .int .i64 0] 25 (0, 0))) := ⟨by (with_reducible repeat (first | refine blk_drewN ?_ _ | refine blk_drew ?_ | refine blk_alloc ?_ _)); refine blk_far ?_ NB369_368.out _; (with_reducible repeat (first | refine blk_drewN ?_ _ | refine blk_drew ?_ | refine blk_alloc ?_ _)); exact BK369.out⟩
                have n2_ : Aside0 (Below w.heap.size w (wc.setCell ⟨gb368, 3, none⟩ (.int .i64 ji28))) := ⟨by repeat (first | (with_reducible first | exact HB.out | apply below_alloc | apply pw_below_drewN | apply below_drew1 | refine below_set ?_ GE368.out | refine below_set ?_ GE369.out) | exact HB.out)⟩
                (try clear BK368)
                (try clear BK369)
                (try clear HB)
                generalize (wc.setCell ⟨gb368, 3, none⟩ (.int .i64 ji28)) = w41 at n0_ n1_ n2_ ⊢
                have BK368 := n0_
                have BK369 := n1_
                have HB := n2_
                clear n0_ n1_ n2_
                have n0_ := Aside0.mk (blk_drew BK368.out)
                have n1_ := Aside0.mk (blk_drew BK369.out)
                have n2_ := Aside0.mk (below_drew1 HB.out)
                clear BK368
                clear BK369
                clear HB
                have BK368 := n0_
                have BK369 := n1_
                have HB := n2_
                clear n0_ n1_ n2_
                refine start_ (n := 13) (S := fun w' => w'.cell? ⟨gb368, 0, none⟩ = some (.int .i64 a0_0) ∧ w'.cell? ⟨gb368, 1, none⟩ = some (.int .i64 a0_1) ∧ w'.cell? ⟨gb368, 2, none⟩ = some (.int .i64 a0_2) ∧ w'.cell? ⟨gb368, 3, none⟩ = some (.int .i64 ji28) ∧ w'.cell? ⟨gb368, 4, none⟩ = some (.int .i64 a0_4) ∧ w'.cell? ⟨gb368, 5, none⟩ = some (.int .i64 a0_5)) (ds := [12]) #[false, false, false, false, false, false, false, false, false, false, false, false, false] (by kernel_rfl) rfl rfl ⟨(blk_cell BK368.out 0).trans rfl, (blk_cell BK368.out 1).trans rfl, (blk_cell BK368.out 2).trans rfl, (blk_cell BK368.out 3).trans rfl, (blk_cell BK368.out 4).trans rfl, (blk_cell BK368.out 5).trans rfl⟩ (fun hHeld => ?_); refine with_tabW alarm_Raise.tab10 alarm_Raise.bits10 (fun HT_ HW_ => ?_)
                generalize w41.drew = w42 at BK368 BK369 HB hHeld ⊢
                refine pure_ (i := 0) (N := some 59) (v := ?_) (a' := ?_) #[true, false, false, false, false, false, false, false, false, false, false, false, false] rfl rfl (any_of HT_.out (by kernel_rfl)) (fun _ _ _ h => h) (Or.inl ⟨by rfl, ?_⟩) ?_ ?_
                rotate_left
                · intro w'
                  go_simp
                  with_reducible rfl
                rotate_left
                · simp only [Act.put, List.setIfInBounds_toArray, List.set_cons_zero, List.set_cons_succ, i64_w, i32_w]
                  rfl
                refine pure_ (i := 2) (N := some 61) (v := ?_) (a' := ?_) #[true, false, true, false, false, false, false, false, false, false, false, false, false] rfl rfl (any_of HT_.out (by kernel_rfl)) (fun _ _ _ h => h) (Or.inl ⟨by rfl, ?_⟩) ?_ ?_
                rotate_left
                · intro w'
                  go_simp
                  with_reducible rfl
                rotate_left
                · simp only [Act.put, List.setIfInBounds_toArray, List.set_cons_zero, List.set_cons_succ, i64_w, i32_w]
                  rfl
                refine pure_ (i := 3) (N := some 62) (v := ?_) (a' := ?_) #[true, false, true, true, false, false, false, false, false, false, false, false, false] rfl rfl (any_of HT_.out (by kernel_rfl)) (fun _ _ _ h => h) (Or.inl ⟨by rfl, ?_⟩) ?_ ?_
                rotate_left
                · intro w'
                  go_simp
                  with_reducible rfl
                rotate_left
                · simp only [Act.put, List.setIfInBounds_toArray, List.set_cons_zero, List.set_cons_succ, i64_w, i32_w]
                  rfl
                refine pure_ (i := 8) (N := some 67) (v := ?_) (a' := ?_) #[true, false, true, true, false, false, false, false, true, false, false, false, false] rfl rfl (any_of HT_.out (by kernel_rfl)) (fun _ _ _ h => h) (Or.inl ⟨by rfl, ?_⟩) ?_ ?_
                rotate_left
                · intro w'
                  go_simp
                  with_reducible rfl
                rotate_left
                · simp only [Act.put, List.setIfInBounds_toArray, List.set_cons_zero, List.set_cons_succ, i64_w, i32_w]
                  rfl
                refine take_ (i := 1) (N := some 60) (v := ?_) (a' := ?_) #[true, true, true, true, false, false, false, false, true, false, false, false, false] rfl rfl (take_ofW HT_.out HW_.out (by kernel_rfl)) (fun _ _ _ h => h) (Or.inl ⟨by rfl, ?_⟩) hHeld ?_ ?_
                rotate_left
                · rintro w' ⟨s0, s1, s2, s3, s4, s5⟩
                  go_simp
                  with_reducible rfl
                rotate_left
                · simp only [Act.put, List.setIfInBounds_toArray, List.set_cons_zero, List.set_cons_succ, i64_w, i32_w]
                  rfl
                refine take_ (i := 4) (N := some 63) (v := ?_) (a' := ?_) #[true, true, true, true, true, false, false, false, true, false, false, false, false] rfl rfl (take_ofW HT_.out HW_.out (by kernel_rfl)) (fun _ _ _ h => h) (Or.inl ⟨by rfl, ?_⟩) hHeld ?_ ?_
                rotate_left
                · rintro w' ⟨s0, s1, s2, s3, s4, s5⟩
                  go_simp
                  with_reducible rfl
                rotate_left
                · simp only [Act.put, List.setIfInBounds_toArray, List.set_cons_zero, List.set_cons_succ, i64_w, i32_w]
                  rfl
                refine take_ (i := 9) (N := some 68) (v := ?_) (a' := ?_) #[true, true, true, true, true, false, false, false, true, true, false, false, false] rfl rfl (take_ofW HT_.out HW_.out (by kernel_rfl)) (fun _ _ _ h => h) (Or.inl ⟨by rfl, ?_⟩) hHeld ?_ ?_
                rotate_left
                · rintro w' ⟨s0, s1, s2, s3, s4, s5⟩
                  go_simp
                  with_reducible rfl
                rotate_left
                · simp only [Act.put, List.setIfInBounds_toArray, List.set_cons_zero, List.set_cons_succ, i64_w, i32_w]
                  rfl
                refine one_ (i := 5) (N := some 64) #[true, true, true, true, true, true, false, false, true, true, false, false, false] rfl rfl (one_of HT_.out (by kernel_rfl)) (by decide) (fun K hK => ?_)
                refine goes_ Try.func20 (by kernel_rfl) rfl #[.int .i64 ji28] (by rfl) rfl rfl (by (try simp only [List.map_toArray, List.map_cons, List.map_nil]); first | done | (simp only [hji28]; rfl) | rfl | (simp only [List.length_drop, List.length_take]; rfl)) ?_
                with_reducible refine (alarm_Wait.calls ji28 t374 _ A36.out).mono ?_
                rintro e w' ⟨rfl, ⟨nd, rfl⟩⟩
                refine ⟨_, rfl, ?_⟩
                refine hK.out _ _ ⟨(blk_cell BK368.out 0).trans rfl, (blk_cell BK368.out 1).trans rfl, (blk_cell BK368.out 2).trans rfl, (blk_cell BK368.out 3).trans rfl, (blk_cell BK368.out 4).trans rfl, (blk_cell BK368.out 5).trans rfl⟩ (fun hHeld => ?_)
                clear hK K
                refine norm_ (a' := ?_) ?_ ?_
                rotate_left
                · show Act.put _ (some 64) _ = _
                  simp only [Act.put, List.setIfInBounds_toArray, List.set_cons_zero, List.set_cons_succ, i64_w, i32_w]
                  rfl
                refine pure_ (i := 6) (N := some 65) (v := ?_) (a' := ?_) #[true, true, true, true, true, true, true, false, true, true, false, false, false] rfl rfl (any_of HT_.out (by kernel_rfl)) (fun _ _ _ h => h) (Or.inl ⟨by rfl, ?_⟩) ?_ ?_
                rotate_left
                · intro w'
                  go_simp
                  with_reducible rfl
                rotate_left
                · simp only [Act.put, List.setIfInBounds_toArray, List.set_cons_zero, List.set_cons_succ, i64_w, i32_w]
                  rfl
                refine pure_ (i := 7) (N := some 66) (v := ?_) (a' := ?_) #[true, true, true, true, true, true, true, true, true, true, false, false, false] rfl rfl (any_of HT_.out (by kernel_rfl)) (fun _ _ _ h => h) (Or.inl ⟨by rfl, ?_⟩) ?_ ?_
                rotate_left
                · intro w'
                  go_simp
                  with_reducible rfl
                rotate_left
                · simp only [Act.put, List.setIfInBounds_toArray, List.set_cons_zero, List.set_cons_succ, i64_w, i32_w]
                  rfl
                refine pure_ (i := 10) (N := some 69) (v := ?_) (a' := ?_) #[true, true, true, true, true, true, true, true, true, true, true, false, false] rfl rfl (any_of HT_.out (by kernel_rfl)) (fun _ _ _ h => h) (Or.inl ⟨by rfl, ?_⟩) ?_ ?_
                rotate_left
                · intro w'
                  go_simp
                  with_reducible rfl
                rotate_left
                · simp only [Act.put, List.setIfInBounds_toArray, List.set_cons_zero, List.set_cons_succ, i64_w, i32_w]
                  rfl
                refine pure_ (i := 11) (N := some 70) (v := ?_) (a' := ?_) #[true, true, true, true, true, true, true, true, true, true, true, true, false] rfl rfl (any_of HT_.out (by kernel_rfl)) (fun _ _ _ h => h) (Or.inl ⟨by rfl, ?_⟩) ?_ ?_
                rotate_left
                · intro w'
                  go_simp
                  with_reducible rfl
                rotate_left
                · simp only [Act.put, List.setIfInBounds_toArray, List.set_cons_zero, List.set_cons_succ, i64_w, i32_w]
                  rfl
                refine last_ (i := 12) (N := none) #[true, true, true, true, true, true, true, true, true, true, true, true, true] rfl rfl (one_of HT_.out (by kernel_rfl)) (by decide) (fun K hK => ?_)
                have hs43 : w42.cell? ⟨gb368, 5, none⟩ = some (.int .i64 a0_5) := (blk_cell BK368.out 5).trans rfl
                have hfs43 := blk_frozen BK368.out 5
                have hns43_1 := NB369_368.out
                have hms43_1 := NB368_369.out
                refine skip_ (w1 := ?_) (by rfl) rfl ?_ ?_
                rotate_left
                · go_simp
                  rfl
                refine hK.out _ _ ?_
                clear hK K
                refine done_ (done_of HT_.out (by kernel_rfl)) ?_
                have hcz44_0 : w42.cell? ⟨gb368, 0, none⟩ = some (.int .i64 a0_0) := (blk_cell BK368.out 0).trans rfl
                have hcz44_1 : w42.cell? ⟨gb368, 1, none⟩ = some (.int .i64 a0_1) := (blk_cell BK368.out 1).trans rfl
                have hcz44_2 : w42.cell? ⟨gb368, 2, none⟩ = some (.int .i64 a0_2) := (blk_cell BK368.out 2).trans rfl
                have hcz44_3 : w42.cell? ⟨gb368, 3, none⟩ = some (.int .i64 ji28) := (blk_cell BK368.out 3).trans rfl
                have hcz44_4 : w42.cell? ⟨gb368, 4, none⟩ = some (.int .i64 a0_4) := (blk_cell BK368.out 4).trans rfl
                have hcz44_5 : w42.cell? ⟨gb368, 5, none⟩ = some (.int .i64 a0_5) := (blk_cell BK368.out 5).trans rfl
                have hfz44_0 := blk_frozen BK368.out 0
                have hfz44_1 := blk_frozen BK368.out 1
                have hfz44_2 := blk_frozen BK368.out 2
                have hfz44_3 := blk_frozen BK368.out 3
                have hfz44_4 := blk_frozen BK368.out 4
                have hfz44_5 := blk_frozen BK368.out 5
                have hcz45_0 : w42.cell? ⟨gb369, 0, none⟩ = some (.int .i64 0) := (blk_cell BK369.out 0).trans rfl
                have hcz45_1 : w42.cell? ⟨gb369, 1, none⟩ = some (.int .i64 0) := (blk_cell BK369.out 1).trans rfl
                have hcz45_2 : w42.cell? ⟨gb369, 2, none⟩ = some (.int .i64 0) := (blk_cell BK369.out 2).trans rfl
                have hcz45_3 : w42.cell? ⟨gb369, 3, none⟩ = some (.int .i64 0) := (blk_cell BK369.out 3).trans rfl
                have hcz45_4 : w42.cell? ⟨gb369, 4, none⟩ = some (.int .i64 0) := (blk_cell BK369.out 4).trans rfl
                have hcz45_5 : w42.cell? ⟨gb369, 5, none⟩ = some (.int .i64 0) := (blk_cell BK369.out 5).trans rfl
                have hfz45_0 := blk_frozen BK369.out 0
                have hfz45_1 := blk_frozen BK369.out 1
                have hfz45_2 := blk_frozen BK369.out 2
                have hfz45_3 := blk_frozen BK369.out 3
                have hfz45_4 := blk_frozen BK369.out 4
                have hfz45_5 := blk_frozen BK369.out 5
                try go_wp2
                refine bodyPost_ret (results_ct rfl _ _ gb369 25 #[.int .i64 a0_0, .int .i64 a0_1, .int .i64 a0_2, .int .i64 ji28, .int .i64 a0_4, .int .i64 ji38] (0, 0) _ rfl (by (with_reducible repeat (first | refine blk_drewN ?_ _ | refine blk_drew ?_ | refine blk_alloc ?_ _)); refine blk_put (cs := #[.int .i64 a0_0, .int .i64 a0_1, .int .i64 a0_2, .int .i64 ji28, .int .i64 a0_4, .int .i64 0]) ?_ 5 _ rfl; (with_reducible repeat (first | refine blk_drewN ?_ _ | refine blk_drew ?_ | refine blk_alloc ?_ _)); refine blk_put (cs := #[.int .i64 a0_0, .int .i64 a0_1, .int .i64 a0_2, .int .i64 ji28, .int .i64 0, .int .i64 0]) ?_ 4 _ rfl; (with_reducible repeat (first | refine blk_drewN ?_ _ | refine blk_drew ?_ | refine blk_alloc ?_ _)); refine blk_put (cs := #[.int .i64 a0_0, .int .i64 a0_1, .int .i64 a0_2, .int .i64 0, .int .i64 0, .int .i64 0]) ?_ 3 _ rfl; (with_reducible repeat (first | refine blk_drewN ?_ _ | refine blk_drew ?_ | refine blk_alloc ?_ _)); refine blk_put (cs := #[.int .i64 a0_0, .int .i64 a0_1, .int .i64 0, .int .i64 0, .int .i64 0, .int .i64 0]) ?_ 2 _ rfl; (with_reducible repeat (first | refine blk_drewN ?_ _ | refine blk_drew ?_ | refine blk_alloc ?_ _)); refine blk_put (cs := #[.int .i64 a0_0, .int .i64 0, .int .i64 0, .int .i64 0, .int .i64 0, .int .i64 0]) ?_ 1 _ rfl; (with_reducible repeat (first | refine blk_drewN ?_ _ | refine blk_drew ?_ | refine blk_alloc ?_ _)); refine blk_put (cs := #[.int .i64 0, .int .i64 0, .int .i64 0, .int .i64 0, .int .i64 0, .int .i64 0]) ?_ 0 _ rfl; (with_reducible repeat (first | refine blk_drewN ?_ _ | refine blk_drew ?_ | refine blk_alloc ?_ _)); refine blk_far ?_ NB369_368.out _; (with_reducible repeat (first | refine blk_drewN ?_ _ | refine blk_drew ?_ | refine blk_alloc ?_ _)); exact BK369.out) Try.underlying25 rfl (by kernel_rfl)) rfl ?_
                exact ⟨by first | rfl | (simp [errW_none, errW_some] <;> rfl) | (simp only [← hji28, ← hji37, ← hji38]; first | rfl | (simp [errW_none, errW_some] <;> rfl)) | (simp [*, errW_none, errW_some] <;> rfl), by repeat (first | (with_reducible first | exact HB.out | apply below_alloc | apply pw_below_drewN | apply below_drew1 | refine below_set ?_ GE368.out | refine below_set ?_ GE369.out) | exact HB.out)⟩
              · rw [if_neg c35] at H
                have c35b0 : decide (a1 < a0_3) = false := decide_eq_false c35
                clear c35
                simp only [Option.some.injEq, Prod.mk.injEq] at H
                obtain ⟨rfl, rfl, rfl, rfl, rfl, rfl, rfl⟩ := H
                have hnb46 := NB368_369.out
                have hnc46 := NB369_368.out
                have hcz47_0 : wc.cell? ⟨gb368, 0, none⟩ = some (.int .i64 a0_0) := (blk_cell BK368.out 0).trans rfl
                have hcz47_1 : wc.cell? ⟨gb368, 1, none⟩ = some (.int .i64 a0_1) := (blk_cell BK368.out 1).trans rfl
                have hcz47_2 : wc.cell? ⟨gb368, 2, none⟩ = some (.int .i64 a0_2) := (blk_cell BK368.out 2).trans rfl
                have hcz47_3 : wc.cell? ⟨gb368, 3, none⟩ = some (.int .i64 a0_3) := (blk_cell BK368.out 3).trans rfl
                have hcz47_4 : wc.cell? ⟨gb368, 4, none⟩ = some (.int .i64 a0_4) := (blk_cell BK368.out 4).trans rfl
                have hcz47_5 : wc.cell? ⟨gb368, 5, none⟩ = some (.int .i64 a0_5) := (blk_cell BK368.out 5).trans rfl
                have hfz47_0 := blk_frozen BK368.out 0
                have hfz47_1 := blk_frozen BK368.out 1
                have hfz47_2 := blk_frozen BK368.out 2
                have hfz47_3 := blk_frozen BK368.out 3
                have hfz47_4 := blk_frozen BK368.out 4
                have hfz47_5 := blk_frozen BK368.out 5
                have hcz48_0 : wc.cell? ⟨gb369, 0, none⟩ = some (.int .i64 0) := (blk_cell BK369.out 0).trans rfl
                have hcz48_1 : wc.cell? ⟨gb369, 1, none⟩ = some (.int .i64 0) := (blk_cell BK369.out 1).trans rfl
                have hcz48_2 : wc.cell? ⟨gb369, 2, none⟩ = some (.int .i64 0) := (blk_cell BK369.out 2).trans rfl
                have hcz48_3 : wc.cell? ⟨gb369, 3, none⟩ = some (.int .i64 0) := (blk_cell BK369.out 3).trans rfl
                have hcz48_4 : wc.cell? ⟨gb369, 4, none⟩ = some (.int .i64 0) := (blk_cell BK369.out 4).trans rfl
                have hcz48_5 : wc.cell? ⟨gb369, 5, none⟩ = some (.int .i64 0) := (blk_cell BK369.out 5).trans rfl
                have hfz48_0 := blk_frozen BK369.out 0
                have hfz48_1 := blk_frozen BK369.out 1
                have hfz48_2 := blk_frozen BK369.out 2
                have hfz48_3 := blk_frozen BK369.out 3
                have hfz48_4 := blk_frozen BK369.out 4
                have hfz48_5 := blk_frozen BK369.out 5
                go_wp2
                refine bodyPost_ret (results_ct rfl _ _ gb369 25 #[.int .i64 a0_0, .int .i64 a0_1, .int .i64 a0_2, .int .i64 ji28, .int .i64 a0_4, .int .i64 a0_5] (0, 0) _ rfl (by (with_reducible repeat (first | refine blk_drewN ?_ _ | refine blk_drew ?_ | refine blk_alloc ?_ _)); refine blk_put (cs := #[.int .i64 a0_0, .int .i64 a0_1, .int .i64 a0_2, .int .i64 ji28, .int .i64 a0_4, .int .i64 0]) ?_ 5 _ rfl; (with_reducible repeat (first | refine blk_drewN ?_ _ | refine blk_drew ?_ | refine blk_alloc ?_ _)); refine blk_put (cs := #[.int .i64 a0_0, .int .i64 a0_1, .int .i64 a0_2, .int .i64 ji28, .int .i64 0, .int .i64 0]) ?_ 4 _ rfl; (with_reducible repeat (first | refine blk_drewN ?_ _ | refine blk_drew ?_ | refine blk_alloc ?_ _)); refine blk_put (cs := #[.int .i64 a0_0, .int .i64 a0_1, .int .i64 a0_2, .int .i64 0, .int .i64 0, .int .i64 0]) ?_ 3 _ rfl; (with_reducible repeat (first | refine blk_drewN ?_ _ | refine blk_drew ?_ | refine blk_alloc ?_ _)); refine blk_put (cs := #[.int .i64 a0_0, .int .i64 a0_1, .int .i64 0, .int .i64 0, .int .i64 0, .int .i64 0]) ?_ 2 _ rfl; (with_reducible repeat (first | refine blk_drewN ?_ _ | refine blk_drew ?_ | refine blk_alloc ?_ _)); refine blk_put (cs := #[.int .i64 a0_0, .int .i64 0, .int .i64 0, .int .i64 0, .int .i64 0, .int .i64 0]) ?_ 1 _ rfl; (with_reducible repeat (first | refine blk_drewN ?_ _ | refine blk_drew ?_ | refine blk_alloc ?_ _)); refine blk_put (cs := #[.int .i64 0, .int .i64 0, .int .i64 0, .int .i64 0, .int .i64 0, .int .i64 0]) ?_ 0 _ rfl; (with_reducible repeat (first | refine blk_drewN ?_ _ | refine blk_drew ?_ | refine blk_alloc ?_ _)); refine blk_far ?_ NB369_368.out _; (with_reducible repeat (first | refine blk_drewN ?_ _ | refine blk_drew ?_ | refine blk_alloc ?_ _)); exact BK369.out) Try.underlying25 rfl (by kernel_rfl)) rfl ?_
                exact ⟨by first | rfl | (simp [errW_none, errW_some] <;> rfl) | (simp only [← hji28]; first | rfl | (simp [errW_none, errW_some] <;> rfl)) | (simp [*, errW_none, errW_some] <;> rfl), by repeat (first | (with_reducible first | exact HB.out | apply below_alloc | apply pw_below_drewN | apply below_drew1 | refine below_set ?_ GE368.out | refine below_set ?_ GE369.out) | exact HB.out)⟩
            · rw [if_neg c34] at H
              have c34b0 : (a0_2 == 1) = false := beq_eq_false_iff_ne.mpr c34
              have c34b1 : (a0_2 != 1) = true := bne_iff_ne.mpr c34
              simp only [Option.some.injEq, Prod.mk.injEq] at H
              obtain ⟨rfl, rfl, rfl, rfl, rfl, rfl, rfl⟩ := H
              have hnb49 := NB368_369.out
              have hnc49 := NB369_368.out
              have hcz50_0 : wc.cell? ⟨gb368, 0, none⟩ = some (.int .i64 a0_0) := (blk_cell BK368.out 0).trans rfl
              have hcz50_1 : wc.cell? ⟨gb368, 1, none⟩ = some (.int .i64 a0_1) := (blk_cell BK368.out 1).trans rfl
              have hcz50_2 : wc.cell? ⟨gb368, 2, none⟩ = some (.int .i64 a0_2) := (blk_cell BK368.out 2).trans rfl
              have hcz50_3 : wc.cell? ⟨gb368, 3, none⟩ = some (.int .i64 a0_3) := (blk_cell BK368.out 3).trans rfl
              have hcz50_4 : wc.cell? ⟨gb368, 4, none⟩ = some (.int .i64 a0_4) := (blk_cell BK368.out 4).trans rfl
              have hcz50_5 : wc.cell? ⟨gb368, 5, none⟩ = some (.int .i64 a0_5) := (blk_cell BK368.out 5).trans rfl
              have hfz50_0 := blk_frozen BK368.out 0
              have hfz50_1 := blk_frozen BK368.out 1
              have hfz50_2 := blk_frozen BK368.out 2
              have hfz50_3 := blk_frozen BK368.out 3
              have hfz50_4 := blk_frozen BK368.out 4
              have hfz50_5 := blk_frozen BK368.out 5
              have hcz51_0 : wc.cell? ⟨gb369, 0, none⟩ = some (.int .i64 0) := (blk_cell BK369.out 0).trans rfl
              have hcz51_1 : wc.cell? ⟨gb369, 1, none⟩ = some (.int .i64 0) := (blk_cell BK369.out 1).trans rfl
              have hcz51_2 : wc.cell? ⟨gb369, 2, none⟩ = some (.int .i64 0) := (blk_cell BK369.out 2).trans rfl
              have hcz51_3 : wc.cell? ⟨gb369, 3, none⟩ = some (.int .i64 0) := (blk_cell BK369.out 3).trans rfl
              have hcz51_4 : wc.cell? ⟨gb369, 4, none⟩ = some (.int .i64 0) := (blk_cell BK369.out 4).trans rfl
              have hcz51_5 : wc.cell? ⟨gb369, 5, none⟩ = some (.int .i64 0) := (blk_cell BK369.out 5).trans rfl
              have hfz51_0 := blk_frozen BK369.out 0
              have hfz51_1 := blk_frozen BK369.out 1
              have hfz51_2 := blk_frozen BK369.out 2
              have hfz51_3 := blk_frozen BK369.out 3
              have hfz51_4 := blk_frozen BK369.out 4
              have hfz51_5 := blk_frozen BK369.out 5
              go_wp2
              refine bodyPost_ret (results_ct rfl _ _ gb369 25 #[.int .i64 a0_0, .int .i64 a0_1, .int .i64 a0_2, .int .i64 ji28, .int .i64 a0_4, .int .i64 a0_5] (0, 0) _ rfl (by (with_reducible repeat (first | refine blk_drewN ?_ _ | refine blk_drew ?_ | refine blk_alloc ?_ _)); refine blk_put (cs := #[.int .i64 a0_0, .int .i64 a0_1, .int .i64 a0_2, .int .i64 ji28, .int .i64 a0_4, .int .i64 0]) ?_ 5 _ rfl; (with_reducible repeat (first | refine blk_drewN ?_ _ | refine blk_drew ?_ | refine blk_alloc ?_ _)); refine blk_put (cs := #[.int .i64 a0_0, .int .i64 a0_1, .int .i64 a0_2, .int .i64 ji28, .int .i64 0, .int .i64 0]) ?_ 4 _ rfl; (with_reducible repeat (first | refine blk_drewN ?_ _ | refine blk_drew ?_ | refine blk_alloc ?_ _)); refine blk_put (cs := #[.int .i64 a0_0, .int .i64 a0_1, .int .i64 a0_2, .int .i64 0, .int .i64 0, .int .i64 0]) ?_ 3 _ rfl; (with_reducible repeat (first | refine blk_drewN ?_ _ | refine blk_drew ?_ | refine blk_alloc ?_ _)); refine blk_put (cs := #[.int .i64 a0_0, .int .i64 a0_1, .int .i64 0, .int .i64 0, .int .i64 0, .int .i64 0]) ?_ 2 _ rfl; (with_reducible repeat (first | refine blk_drewN ?_ _ | refine blk_drew ?_ | refine blk_alloc ?_ _)); refine blk_put (cs := #[.int .i64 a0_0, .int .i64 0, .int .i64 0, .int .i64 0, .int .i64 0, .int .i64 0]) ?_ 1 _ rfl; (with_reducible repeat (first | refine blk_drewN ?_ _ | refine blk_drew ?_ | refine blk_alloc ?_ _)); refine blk_put (cs := #[.int .i64 0, .int .i64 0, .int .i64 0, .int .i64 0, .int .i64 0, .int .i64 0]) ?_ 0 _ rfl; (with_reducible repeat (first | refine blk_drewN ?_ _ | refine blk_drew ?_ | refine blk_alloc ?_ _)); refine blk_far ?_ NB369_368.out _; (with_reducible repeat (first | refine blk_drewN ?_ _ | refine blk_drew ?_ | refine blk_alloc ?_ _)); exact BK369.out) Try.underlying25 rfl (by kernel_rfl)) rfl ?_
              exact ⟨by first | rfl | (simp [errW_none, errW_some] <;> rfl) | (simp only [← hji28]; first | rfl | (simp [errW_none, errW_some] <;> rfl)) | (simp [*, errW_none, errW_some] <;> rfl), by repeat (first | (with_reducible first | exact HB.out | apply below_alloc | apply pw_below_drewN | apply below_drew1 | refine below_set ?_ GE368.out | refine below_set ?_ GE369.out) | exact HB.out)⟩

end Go.Proofs.Ytlleifklioamlaa.F
