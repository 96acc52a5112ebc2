-- Written by a program of this session (xprint.py), out of the translation and of contracts proved by hand.
import Derived.Test.YtcfpbmdndapeaaaF0
import Derived.Test.YtcfpbmdndapeaaaF1
namespace Go.Proofs.Ytcfpbmdndapeaaa.F
open Go.RowKit Go.Proofs.YtcfpbmdndapeaaaV.PrintWords Go.Proofs.YtcfpbmdndapeaaaV.PrintLast Go.Proofs.YtcfpbmdndapeaaaV.PrintMore
attribute [local go_sem] max2_int min2_int max_two min_two max_three min_three max_four min_four   -- for this text's walks alone
set_option linter.unusedVariables false
set_option linter.unusedSimpArgs false

attribute [local go_sem high] eqA26
/-! ### watchmanref08_Get: function 22 -/
def watchmanref08_Get.l0 : Nat → Int → Int → Int → List (S28) → Int → Int → Option (Int × Int × Int × Int × Int × Int × Bool)
 | 0, _, _, _, _, _, _ => none
 | k + 1, x6, x218000, x218001, x218002, x219000, x219001 => if x6 < (x218002.length : Int) then (if 0 ≤ x6 then (if (((rd_T28 x218002 x6).f0.f0) == x219000 && (((rd_T28 x218002 x6).f0.f1) == x219001)) = true then (some ((rd_T28 x218002 x6).f0.f0, (rd_T28 x218002 x6).f0.f1, (rd_T28 x218002 x6).f1, (rd_T28 x218002 x6).f2, (rd_T28 x218002 x6).f3, (rd_T28 x218002 x6).f4, true)) else (watchmanref08_Get.l0 k (wrap64 (x6 + 1)) x218000 x218001 x218002 x219000 x219001)) else (none)) else (some (0, 0, 0, 0, 0, 0, false))
def watchmanref08_Get.f (k : Nat) (a0_0 : Int) (a0_1 : Int) (l0_2 : List (S28)) (a1_0 : Int) (a1_1 : Int) : Option (Int × Int × Int × Int × Int × Int × Bool) := watchmanref08_Get.l0 k 0 a0_0 a0_1 l0_2 a1_0 a1_1
theorem watchmanref08_Get.mono_l : ∀ k, (∀ y0 y1 y2 y3 y4 y5, LeO (watchmanref08_Get.l0 k y0 y1 y2 y3 y4 y5) (watchmanref08_Get.l0 (k + 1) y0 y1 y2 y3 y4 y5))
 | 0 => fun _ _ _ _ _ _ r h => by simp [watchmanref08_Get.l0] at h
 | k + 1 => by
  have ih0 := watchmanref08_Get.mono_l k
  ·intro y0 y1 y2 y3 y4 y5
   unfold watchmanref08_Get.l0
   repeat' first
   | (with_reducible exact ih0 _ _ _ _ _ _)
   | (with_reducible exact LeO.refl _)
   | (with_reducible exact LeO.none _)
   | (with_reducible refine LeO.ite ?_ ?_)
   | (with_reducible refine LeO.bind ?_ (fun _ => ?_))
   | exact ih0 _ _ _ _ _ _
   | exact LeO.none _
   | refine LeO.ite ?_ ?_
   | refine LeO.bind ?_ (fun _ => ?_)
theorem watchmanref08_Get.mono : ∀ a0 a1 a2 a3 a4 k, LeO (watchmanref08_Get.f k a0 a1 a2 a3 a4) (watchmanref08_Get.f (k + 1) a0 a1 a2 a3 a4) := by
 intro a0 a1 a2 a3 a4 k
 have ih0 := watchmanref08_Get.mono_l k
 unfold watchmanref08_Get.f
 repeat' first
   | (with_reducible exact ih0 _ _ _ _ _ _)
   | (with_reducible exact LeO.refl _)
   | (with_reducible exact LeO.none _)
   | (with_reducible refine LeO.ite ?_ ?_)
   | (with_reducible refine LeO.bind ?_ (fun _ => ?_))
   | exact ih0 _ _ _ _ _ _
   | exact LeO.none _
   | refine LeO.ite ?_ ?_
   | refine LeO.bind ?_ (fun _ => ?_)
set_option maxHeartbeats 8000000 in
set_option maxRecDepth 100000 in
theorem watchmanref08_Get.calls (k : Nat) (a0_0 : Int) (a0_1 : Int) (A0_2 : Option Addr) (c0_2 : Nat) (l0_2 : List (S28)) (a1_0 : Int) (a1_1 : Int) (r1 : Int) (r2 : Int) (r3 : Int) (r4 : Int) (r5 : Int) (r6 : Int) (r7 : Bool) (w : World) (hr0_2 : Kd.C k28 w A0_2 l0_2.length l0_2) (hc0_2 : l0_2.length ≤ c0_2) (h : watchmanref08_Get.f k a0_0 a0_1 l0_2 a1_0 a1_1 = some (r1, r2, r3, r4, r5, r6, r7)) :
  Calls Try.prog 22 #[.agg #[.int .i64 a0_0, .int .i64 a0_1, .slice A0_2 l0_2.length c0_2], .agg #[.int .i64 a1_0, .int .i64 a1_1]] w fun e w' => e = .returned (.tuple #[.agg #[.int .i64 r1, .int .i64 r2, .int .i64 r3, .int .i64 r4, .int .i64 r5, .int .i64 r6], .bool r7]) ∧ Below w.heap.size w w' := by
 have hu24 := Try.underlying24
 have hu26 := Try.underlying26
 have hu28 := Try.underlying28
 have HR0_2 := Aside0.mk hr0_2
 have HC0_2 := Aside0.mk hc0_2
 clear hr0_2 hc0_2
 have HB := Aside0.mk (Below.refl w.heap.size w)
 have H : (watchmanref08_Get.l0 k 0 a0_0 a0_1 l0_2 a1_0 a1_1) = some (r1, r2, r3, r4, r5, r6, r7) := h
 clear h
 have H' := Aside0.mk H
 clear H
 go_enter Try.func22, Try.ntmps22
 go_wp2_with (first | ((with_reducible refine gate_dst (N := 2) rfl ?_); refine box_event ?hg (N := 2) ?hd (cs := #[.int .i64 a0_0, .int .i64 a0_1, .slice A0_2 l0_2.length c0_2]) (t := 24) ?hr ?_; (case hd => rfl); (case hg => rfl); (case hr => first | (go_simp; done) | (go_simp; rfl)); intro gb217 hg w3 hbox hb; have BK217 := Aside0.mk (hbox); have GW217 := Aside0.mk ((by rw [hg]; exact (below_size HB.out) : w.heap.size ≤ gb217)); have GE217 := Aside0.mk ((by rw [hg]; exact (below_size HB.out) : w.heap.size ≤ gb217)); replace HB := Aside0.mk (below_step HB.out hb); clear hb hbox hg) | ((with_reducible refine gate_dst (N := 3) rfl ?_); refine box_event ?hg (N := 3) ?hd (cs := #[.int .i64 a1_0, .int .i64 a1_1]) (t := 26) ?hr ?_; (case hd => rfl); (case hg => rfl); (case hr => first | (go_simp; done) | (go_simp; rfl)); intro gb218 hg w4 hbox hb; have BK218 := Aside0.mk (hbox); have GW218 := Aside0.mk ((by rw [hg]; exact (below_size (by repeat (with_reducible first | exact HB.out | apply pw_below_drewN | apply below_drew1 | refine below_set ?_ GE217.out))) : w.heap.size ≤ gb218)); have GE218 := Aside0.mk ((by rw [hg]; exact (below_size (by repeat (with_reducible first | exact HB.out | apply pw_below_drewN | apply below_drew1 | refine below_set ?_ GE217.out))) : w.heap.size ≤ gb218)); replace HB := Aside0.mk (below_step (by repeat (with_reducible first | exact HB.out | apply pw_below_drewN | apply below_drew1 | refine below_set ?_ GE217.out)) hb); have NB217_218 := Aside0.mk ((by rw [hg]; exact Nat.ne_of_lt (blk_lt BK217.out) : gb217 ≠ gb218)); have NB218_217 := Aside0.mk ((by rw [hg]; exact Nat.ne_of_gt (blk_lt BK217.out) : gb218 ≠ gb217)); replace BK217 := bl_ BK217 hb; clear hb hbox hg) | ((with_reducible refine gate_dst (N := 4) rfl ?_); refine box_event ?hg (N := 4) ?hd (cs := #[.int .i64 0, .int .i64 0, .int .i64 0, .int .i64 0, .int .i64 0, .int .i64 0]) (t := 28) ?hr ?_; (case hd => rfl); (case hg => rfl); (case hr => first | (go_simp; done) | (go_simp; rfl)); intro gb219 hg w5 hbox hb; have BK219 := Aside0.mk (hbox); have GW219 := Aside0.mk ((by rw [hg]; exact (below_size (by repeat (with_reducible first | exact HB.out | apply pw_below_drewN | apply below_drew1 | refine below_set ?_ (Aside0.out (by assumption))))) : w.heap.size ≤ gb219)); have GE219 := Aside0.mk ((by rw [hg]; exact (below_size (by repeat (with_reducible first | exact HB.out | apply pw_below_drewN | apply below_drew1 | refine below_set ?_ (Aside0.out (by assumption))))) : w.heap.size ≤ gb219)); replace HB := Aside0.mk (below_step (by repeat (with_reducible first | exact HB.out | apply pw_below_drewN | apply below_drew1 | refine below_set ?_ (Aside0.out (by assumption)))) hb); have NB217_219 := Aside0.mk ((by rw [hg]; exact Nat.ne_of_lt (blk_lt BK217.out) : gb217 ≠ gb219)); have NB219_217 := Aside0.mk ((by rw [hg]; exact Nat.ne_of_gt (blk_lt BK217.out) : gb219 ≠ gb217)); replace BK217 := bl_ BK217 hb; have NB218_219 := Aside0.mk ((by rw [hg]; exact Nat.ne_of_lt (blk_lt BK218.out) : gb218 ≠ gb219)); have NB219_218 := Aside0.mk ((by rw [hg]; exact Nat.ne_of_gt (blk_lt BK218.out) : gb219 ≠ gb218)); replace BK218 := bl_ BK218 hb; clear hb hbox hg))
 go_loopg [6] k (fun kq v6 w' => ∃ (x6_1 : Int) (x220000_1 : Int) (x220001_1 : Int) (x220002_1 : Int) (x220003_1 : Int) (x220004_1 : Int) (x220005_1 : Int), v6 = .int .i64 x6_1 ∧ Aside0 (watchmanref08_Get.l0 kq x6_1 a0_0 a0_1 l0_2 a1_0 a1_1 = some (r1, r2, r3, r4, r5, r6, r7)) ∧ Aside0 (kq ≤ k) ∧ Aside0 (w'.heap[gb217]? = some (.cells #[.int .i64 a0_0, .int .i64 a0_1, (.slice A0_2 l0_2.length c0_2)] 24 (0, 0))) ∧ Aside0 (w'.heap[gb218]? = some (.cells #[.int .i64 a1_0, .int .i64 a1_1] 26 (0, 0))) ∧ Aside0 (w'.heap[gb219]? = some (.cells #[.int .i64 x220000_1, .int .i64 x220001_1, .int .i64 x220002_1, .int .i64 x220003_1, .int .i64 x220004_1, .int .i64 x220005_1] 28 (0, 0))) ∧ Aside0 (Below w.heap.size w w'))
 case atStart => exact ⟨(0), (0), (0), (0), (0), (0), (0), (by first | rfl | (simp; done) | (simp [*]; done)), H', ⟨Nat.le_refl _⟩, ⟨by (with_reducible repeat (first | refine blk_drewN ?_ _ | refine blk_drew ?_ | refine blk_alloc ?_ _)); exact BK217.out⟩, ⟨by (with_reducible repeat (first | refine blk_drewN ?_ _ | refine blk_drew ?_ | refine blk_alloc ?_ _)); exact BK218.out⟩, ⟨by (with_reducible repeat (first | refine blk_drewN ?_ _ | refine blk_drew ?_ | refine blk_alloc ?_ _)); exact BK219.out⟩, ⟨by repeat (with_reducible first | exact HB.out | apply pw_below_drewN | apply below_drew1 | refine below_set ?_ (Aside0.out (by assumption)))⟩⟩
 case round =>
  clear H'
  try clear c2; try clear p2
  obtain ⟨x6_1, x220000_1, x220001_1, x220002_1, x220003_1, x220004_1, x220005_1, rfl, HA, HK1, BK217, BK218, BK219, HB⟩ := hrel
  cases gk with
  | zero => exact absurd HA.out (by simp [watchmanref08_Get.l0])
  | succ k1 =>
   have H := HA.out
   clear HA
   simp only [watchmanref08_Get.l0] at H
   by_cases c6 : x6_1 < (l0_2.length : Int)
   ·rw [if_pos c6] at H
    have c6b0 : decide (x6_1 < (l0_2.length : Int)) = true := decide_eq_true c6
    clear c6
    by_cases c7 : 0 ≤ x6_1
    ·rw [if_pos c7] at H
     have c7b0 : decide (0 ≤ x6_1) = true := decide_eq_true c7
     clear c7
     by_cases c8 : (((rd_T28 l0_2 x6_1).f0.f0) == a1_0 && (((rd_T28 l0_2 x6_1).f0.f1) == a1_1)) = true
     ·rw [if_pos c8] at H
      have c8b0 : (((rd_T28 l0_2 x6_1).f0.f0) == a1_0 && (((rd_T28 l0_2 x6_1).f0.f1) == a1_1)) = true := c8
      (try (have c8b1 : decide (((rd_T28 l0_2 x6_1).f0.f0) = a1_0 && (((rd_T28 l0_2 x6_1).f0.f1) == a1_1)) = true := by simpa using c8))
      (try (have c8b2 : (((rd_T28 l0_2 x6_1).f0.f0) == a1_0 && (((rd_T28 l0_2 x6_1).f0.f1) == a1_1)) = true := by simpa using c8))
      clear c8
      simp only [Option.some.injEq, Prod.mk.injEq] at H
      obtain ⟨rfl, rfl, rfl, rfl, rfl, rfl, rfl⟩ := H
      have hnb9 := NB217_218.out
      have hnc9 := NB218_217.out
      have hnb10 := NB217_219.out
      have hnc10 := NB219_217.out
      have hcz11_0 : wr.cell? ⟨gb217, 0, none⟩ = some (.int .i64 a0_0) := (blk_cell BK217.out 0).trans rfl
      have hcz11_1 : wr.cell? ⟨gb217, 1, none⟩ = some (.int .i64 a0_1) := (blk_cell BK217.out 1).trans rfl
      have hcz11_2 : wr.cell? ⟨gb217, 2, none⟩ = some (.slice A0_2 l0_2.length c0_2) := (blk_cell BK217.out 2).trans rfl
      have hfz11_0 := blk_frozen BK217.out 0
      have hfz11_1 := blk_frozen BK217.out 1
      have hfz11_2 := blk_frozen BK217.out 2
      have p220 : 0 ≤ (x6_1 : Int) := of_decide_eq_true (by first | (with_reducible assumption) | assumption)
      have q220 : x6_1 < (l0_2.length : Int) := of_decide_eq_true (by first | (with_reducible assumption) | assumption)
      obtain ⟨ad220, e220, hx220_0, hx220_1, hx220_2, hx220_3, hx220_4, hx220_5⟩ := at_T28 HR0_2.out x6_1 p220 q220
      cases e220
      replace hx220_0 := (HB.out.cell (World.block_lt_of_cell? w _ hx220_0)).trans hx220_0
      replace hx220_1 := (HB.out.cell (World.block_lt_of_cell? w _ hx220_1)).trans hx220_1
      replace hx220_2 := (HB.out.cell (World.block_lt_of_cell? w _ hx220_2)).trans hx220_2
      replace hx220_3 := (HB.out.cell (World.block_lt_of_cell? w _ hx220_3)).trans hx220_3
      replace hx220_4 := (HB.out.cell (World.block_lt_of_cell? w _ hx220_4)).trans hx220_4
      replace hx220_5 := (HB.out.cell (World.block_lt_of_cell? w _ hx220_5)).trans hx220_5
      replace p220 := eq_true p220
      replace q220 := eq_true q220
      have hnb12 := NB218_219.out
      have hnc12 := NB219_218.out
      have hcz13_0 : wr.cell? ⟨gb218, 0, none⟩ = some (.int .i64 a1_0) := (blk_cell BK218.out 0).trans rfl
      have hcz13_1 : wr.cell? ⟨gb218, 1, none⟩ = some (.int .i64 a1_1) := (blk_cell BK218.out 1).trans rfl
      have hfz13_0 := blk_frozen BK218.out 0
      have hfz13_1 := blk_frozen BK218.out 1
      have p221 : 0 ≤ (x6_1 : Int) := of_decide_eq_true (by first | (with_reducible assumption) | assumption)
      have q221 : x6_1 < (l0_2.length : Int) := of_decide_eq_true (by first | (with_reducible assumption) | assumption)
      obtain ⟨ad221, e221, hx221_0, hx221_1, hx221_2, hx221_3, hx221_4, hx221_5⟩ := at_T28 HR0_2.out x6_1 p221 q221
      obtain rfl : ad220 = ad221 := (by injection e221)
      replace hx221_0 := (HB.out.cell (World.block_lt_of_cell? w _ hx221_0)).trans hx221_0
      replace hx221_1 := (HB.out.cell (World.block_lt_of_cell? w _ hx221_1)).trans hx221_1
      replace hx221_2 := (HB.out.cell (World.block_lt_of_cell? w _ hx221_2)).trans hx221_2
      replace hx221_3 := (HB.out.cell (World.block_lt_of_cell? w _ hx221_3)).trans hx221_3
      replace hx221_4 := (HB.out.cell (World.block_lt_of_cell? w _ hx221_4)).trans hx221_4
      replace hx221_5 := (HB.out.cell (World.block_lt_of_cell? w _ hx221_5)).trans hx221_5
      replace p221 := eq_true p221
      replace q221 := eq_true q221
      have hcz14_0 : wr.cell? ⟨gb219, 0, none⟩ = some (.int .i64 x220000_1) := (blk_cell BK219.out 0).trans rfl
      have hcz14_1 : wr.cell? ⟨gb219, 1, none⟩ = some (.int .i64 x220001_1) := (blk_cell BK219.out 1).trans rfl
      have hcz14_2 : wr.cell? ⟨gb219, 2, none⟩ = some (.int .i64 x220002_1) := (blk_cell BK219.out 2).trans rfl
      have hcz14_3 : wr.cell? ⟨gb219, 3, none⟩ = some (.int .i64 x220003_1) := (blk_cell BK219.out 3).trans rfl
      have hcz14_4 : wr.cell? ⟨gb219, 4, none⟩ = some (.int .i64 x220004_1) := (blk_cell BK219.out 4).trans rfl
      have hcz14_5 : wr.cell? ⟨gb219, 5, none⟩ = some (.int .i64 x220005_1) := (blk_cell BK219.out 5).trans rfl
      have hfz14_0 := blk_frozen BK219.out 0
      have hfz14_1 := blk_frozen BK219.out 1
      have hfz14_2 := blk_frozen BK219.out 2
      have hfz14_3 := blk_frozen BK219.out 3
      have hfz14_4 := blk_frozen BK219.out 4
      have hfz14_5 := blk_frozen BK219.out 5
      go_wp2
      repeat (go_quiet (fail); try go_wp2)
      refine bodyPost_ret (results_ct rfl _ _ gb219 28 #[.int .i64 ((rd_T28 l0_2 x6_1).f0.f0), .int .i64 ((rd_T28 l0_2 x6_1).f0.f1), .int .i64 ((rd_T28 l0_2 x6_1).f1), .int .i64 ((rd_T28 l0_2 x6_1).f2), .int .i64 ((rd_T28 l0_2 x6_1).f3), .int .i64 ((rd_T28 l0_2 x6_1).f4)] (0, 0) _ rfl (by refine blk_put (cs := #[.int .i64 ((rd_T28 l0_2 x6_1).f0.f0), .int .i64 ((rd_T28 l0_2 x6_1).f0.f1), .int .i64 ((rd_T28 l0_2 x6_1).f1), .int .i64 ((rd_T28 l0_2 x6_1).f2), .int .i64 ((rd_T28 l0_2 x6_1).f3), .int .i64 x220005_1]) ?_ 5 _ rfl; refine blk_put (cs := #[.int .i64 ((rd_T28 l0_2 x6_1).f0.f0), .int .i64 ((rd_T28 l0_2 x6_1).f0.f1), .int .i64 ((rd_T28 l0_2 x6_1).f1), .int .i64 ((rd_T28 l0_2 x6_1).f2), .int .i64 x220004_1, .int .i64 x220005_1]) ?_ 4 _ rfl; refine blk_put (cs := #[.int .i64 ((rd_T28 l0_2 x6_1).f0.f0), .int .i64 ((rd_T28 l0_2 x6_1).f0.f1), .int .i64 ((rd_T28 l0_2 x6_1).f1), .int .i64 x220003_1, .int .i64 x220004_1, .int .i64 x220005_1]) ?_ 3 _ rfl; refine blk_put (cs := #[.int .i64 ((rd_T28 l0_2 x6_1).f0.f0), .int .i64 ((rd_T28 l0_2 x6_1).f0.f1), .int .i64 x220002_1, .int .i64 x220003_1, .int .i64 x220004_1, .int .i64 x220005_1]) ?_ 2 _ rfl; refine blk_put (cs := #[.int .i64 ((rd_T28 l0_2 x6_1).f0.f0), .int .i64 x220001_1, .int .i64 x220002_1, .int .i64 x220003_1, .int .i64 x220004_1, .int .i64 x220005_1]) ?_ 1 _ rfl; refine blk_put (cs := #[.int .i64 x220000_1, .int .i64 x220001_1, .int .i64 x220002_1, .int .i64 x220003_1, .int .i64 x220004_1, .int .i64 x220005_1]) ?_ 0 _ rfl; exact BK219.out) Try.underlying28 rfl (by kernel_rfl)) rfl ?_
      exact ⟨by first | rfl | (simp [errW_none, errW_some] <;> rfl) | (simp [*, errW_none, errW_some] <;> rfl), by repeat (with_reducible first | exact HB.out | apply pw_below_drewN | apply below_drew1 | refine below_set ?_ (Aside0.out (by assumption)))⟩
     ·rw [if_neg c8] at H
      have c8b0 : (((rd_T28 l0_2 x6_1).f0.f0) == a1_0 && (((rd_T28 l0_2 x6_1).f0.f1) == a1_1)) = false := by simpa using c8
      (try (have c8b1 : decide (((rd_T28 l0_2 x6_1).f0.f0) = a1_0 && (((rd_T28 l0_2 x6_1).f0.f1) == a1_1)) = false := by simpa using c8))
      (try (have c8b2 : (((rd_T28 l0_2 x6_1).f0.f0) == a1_0 && (((rd_T28 l0_2 x6_1).f0.f1) == a1_1)) = false := by simpa using c8))
      (try (have c8b3 : ¬ (((rd_T28 l0_2 x6_1).f0.f0) = a1_0 && (((rd_T28 l0_2 x6_1).f0.f1) == a1_1)) := by simpa using c8))
      clear c8
      have H' := Aside0.mk H
      clear H
      have hnb15 := NB217_218.out
      have hnc15 := NB218_217.out
      have hnb16 := NB217_219.out
      have hnc16 := NB219_217.out
      have hcz17_0 : wr.cell? ⟨gb217, 0, none⟩ = some (.int .i64 a0_0) := (blk_cell BK217.out 0).trans rfl
      have hcz17_1 : wr.cell? ⟨gb217, 1, none⟩ = some (.int .i64 a0_1) := (blk_cell BK217.out 1).trans rfl
      have hcz17_2 : wr.cell? ⟨gb217, 2, none⟩ = some (.slice A0_2 l0_2.length c0_2) := (blk_cell BK217.out 2).trans rfl
      have hfz17_0 := blk_frozen BK217.out 0
      have hfz17_1 := blk_frozen BK217.out 1
      have hfz17_2 := blk_frozen BK217.out 2
      have p220 : 0 ≤ (x6_1 : Int) := of_decide_eq_true (by first | (with_reducible assumption) | assumption)
      have q220 : x6_1 < (l0_2.length : Int) := of_decide_eq_true (by first | (with_reducible assumption) | assumption)
      obtain ⟨ad220, e220, hx220_0, hx220_1, hx220_2, hx220_3, hx220_4, hx220_5⟩ := at_T28 HR0_2.out x6_1 p220 q220
      cases e220
      replace hx220_0 := (HB.out.cell (World.block_lt_of_cell? w _ hx220_0)).trans hx220_0
      replace hx220_1 := (HB.out.cell (World.block_lt_of_cell? w _ hx220_1)).trans hx220_1
      replace hx220_2 := (HB.out.cell (World.block_lt_of_cell? w _ hx220_2)).trans hx220_2
      replace hx220_3 := (HB.out.cell (World.block_lt_of_cell? w _ hx220_3)).trans hx220_3
      replace hx220_4 := (HB.out.cell (World.block_lt_of_cell? w _ hx220_4)).trans hx220_4
      replace hx220_5 := (HB.out.cell (World.block_lt_of_cell? w _ hx220_5)).trans hx220_5
      replace p220 := eq_true p220
      replace q220 := eq_true q220
      have hnb18 := NB218_219.out
      have hnc18 := NB219_218.out
      have hcz19_0 : wr.cell? ⟨gb218, 0, none⟩ = some (.int .i64 a1_0) := (blk_cell BK218.out 0).trans rfl
      have hcz19_1 : wr.cell? ⟨gb218, 1, none⟩ = some (.int .i64 a1_1) := (blk_cell BK218.out 1).trans rfl
      have hfz19_0 := blk_frozen BK218.out 0
      have hfz19_1 := blk_frozen BK218.out 1
      go_wp2
      repeat (go_quiet (fail); try go_wp2)
      go_roundg k1
      case measure => have := HK1.out; omega
      case rel => exact ⟨(wrap64 (x6_1 + 1)), (x220000_1), (x220001_1), (x220002_1), (x220003_1), (x220004_1), (x220005_1), (by first | rfl | (simp; done) | (simp [*]; done)), H', ⟨by have := HK1.out; omega⟩, ⟨by (with_reducible repeat (first | refine blk_drewN ?_ _ | refine blk_drew ?_ | refine blk_alloc ?_ _)); exact BK217.out⟩, ⟨by (with_reducible repeat (first | refine blk_drewN ?_ _ | refine blk_drew ?_ | refine blk_alloc ?_ _)); exact BK218.out⟩, ⟨by (with_reducible repeat (first | refine blk_drewN ?_ _ | refine blk_drew ?_ | refine blk_alloc ?_ _)); exact BK219.out⟩, ⟨by repeat (with_reducible first | exact HB.out | apply pw_below_drewN | apply below_drew1 | refine below_set ?_ (Aside0.out (by assumption)))⟩⟩
    ·rw [if_neg c7] at H
     exact absurd H (by simp)
   ·rw [if_neg c6] at H
    have c6b0 : decide (x6_1 < (l0_2.length : Int)) = false := decide_eq_false c6
    clear c6
    simp only [Option.some.injEq, Prod.mk.injEq] at H
    obtain ⟨rfl, rfl, rfl, rfl, rfl, rfl, rfl⟩ := H
    have hnb20 := NB217_218.out
    have hnc20 := NB218_217.out
    have hnb21 := NB217_219.out
    have hnc21 := NB219_217.out
    have hcz22_0 : wr.cell? ⟨gb217, 0, none⟩ = some (.int .i64 a0_0) := (blk_cell BK217.out 0).trans rfl
    have hcz22_1 : wr.cell? ⟨gb217, 1, none⟩ = some (.int .i64 a0_1) := (blk_cell BK217.out 1).trans rfl
    have hcz22_2 : wr.cell? ⟨gb217, 2, none⟩ = some (.slice A0_2 l0_2.length c0_2) := (blk_cell BK217.out 2).trans rfl
    have hfz22_0 := blk_frozen BK217.out 0
    have hfz22_1 := blk_frozen BK217.out 1
    have hfz22_2 := blk_frozen BK217.out 2
    have hnb23 := NB219_218.out
    have hnc23 := NB218_219.out
    have hcz24_0 : wr.cell? ⟨gb219, 0, none⟩ = some (.int .i64 x220000_1) := (blk_cell BK219.out 0).trans rfl
    have hcz24_1 : wr.cell? ⟨gb219, 1, none⟩ = some (.int .i64 x220001_1) := (blk_cell BK219.out 1).trans rfl
    have hcz24_2 : wr.cell? ⟨gb219, 2, none⟩ = some (.int .i64 x220002_1) := (blk_cell BK219.out 2).trans rfl
    have hcz24_3 : wr.cell? ⟨gb219, 3, none⟩ = some (.int .i64 x220003_1) := (blk_cell BK219.out 3).trans rfl
    have hcz24_4 : wr.cell? ⟨gb219, 4, none⟩ = some (.int .i64 x220004_1) := (blk_cell BK219.out 4).trans rfl
    have hcz24_5 : wr.cell? ⟨gb219, 5, none⟩ = some (.int .i64 x220005_1) := (blk_cell BK219.out 5).trans rfl
    have hfz24_0 := blk_frozen BK219.out 0
    have hfz24_1 := blk_frozen BK219.out 1
    have hfz24_2 := blk_frozen BK219.out 2
    have hfz24_3 := blk_frozen BK219.out 3
    have hfz24_4 := blk_frozen BK219.out 4
    have hfz24_5 := blk_frozen BK219.out 5
    go_wp2
    repeat (go_quiet (fail); try go_wp2)
    refine bodyPost_ret (results_ct rfl _ _ gb219 28 #[.int .i64 0, .int .i64 0, .int .i64 0, .int .i64 0, .int .i64 0, .int .i64 0] (0, 0) _ rfl (by refine blk_put (cs := #[.int .i64 0, .int .i64 0, .int .i64 0, .int .i64 0, .int .i64 0, .int .i64 x220005_1]) ?_ 5 _ rfl; refine blk_put (cs := #[.int .i64 0, .int .i64 0, .int .i64 0, .int .i64 0, .int .i64 x220004_1, .int .i64 x220005_1]) ?_ 4 _ rfl; refine blk_put (cs := #[.int .i64 0, .int .i64 0, .int .i64 0, .int .i64 x220003_1, .int .i64 x220004_1, .int .i64 x220005_1]) ?_ 3 _ rfl; refine blk_put (cs := #[.int .i64 0, .int .i64 0, .int .i64 x220002_1, .int .i64 x220003_1, .int .i64 x220004_1, .int .i64 x220005_1]) ?_ 2 _ rfl; refine blk_put (cs := #[.int .i64 0, .int .i64 x220001_1, .int .i64 x220002_1, .int .i64 x220003_1, .int .i64 x220004_1, .int .i64 x220005_1]) ?_ 1 _ rfl; refine blk_put (cs := #[.int .i64 x220000_1, .int .i64 x220001_1, .int .i64 x220002_1, .int .i64 x220003_1, .int .i64 x220004_1, .int .i64 x220005_1]) ?_ 0 _ rfl; exact BK219.out) Try.underlying28 rfl (by kernel_rfl)) rfl ?_
    exact ⟨by first | rfl | (simp [errW_none, errW_some] <;> rfl) | (simp [*, errW_none, errW_some] <;> rfl), by repeat (with_reducible first | exact HB.out | apply pw_below_drewN | apply below_drew1 | refine below_set ?_ (Aside0.out (by assumption)))⟩

end Go.Proofs.Ytcfpbmdndapeaaa.F
