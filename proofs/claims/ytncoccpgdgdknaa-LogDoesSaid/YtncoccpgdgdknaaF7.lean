-- Written by a program of this session (xprint.py), out of the translation and of contracts proved by hand.
import Derived.Test.YtncoccpgdgdknaaF0
import Derived.Test.YtncoccpgdgdknaaF1
namespace Go.Proofs.Ytncoccpgdgdknaa.F
open Go.RowKit Go.Proofs.YtncoccpgdgdknaaV.PrintWords Go.Proofs.YtncoccpgdgdknaaV.PrintLast Go.Proofs.YtncoccpgdgdknaaV.PrintMore
attribute [local go_sem] max2_int min2_int max_two min_two max_three min_three max_four min_four   -- for this text's walks alone
set_option linter.unusedVariables false
set_option linter.unusedSimpArgs false

/-! ### watchmanref23_Best: function 22 -/
def watchmanref23_Best.l0 : Nat → List (S36) → Int → Int → Option (Int × Int × Int × List ByteArray × Bool)
  | 0, _, _, _ => none
  | k + 1, x0, x4, x5 => if x5 < (x0.length : Int) then (if 0 ≤ x5 then (if 0 ≤ x4 then (if x4 < (x0.length : Int) then (if ((rd_T36 x0 x5).f1) > ((rd_T36 x0 x4).f1) then (watchmanref23_Best.l0 k x0 x5 (wrap64 (x5 + 1))) else (if ((rd_T36 x0 x5).f1) = ((rd_T36 x0 x4).f1) then (if (((rd_T36 x0 x5).f3).length : Int) > (((rd_T36 x0 x4).f3).length : Int) then (watchmanref23_Best.l0 k x0 x5 (wrap64 (x5 + 1))) else (watchmanref23_Best.l0 k x0 x4 (wrap64 (x5 + 1)))) else (watchmanref23_Best.l0 k x0 x4 (wrap64 (x5 + 1))))) else (none)) else (none)) else (none)) else (if 0 ≤ x4 then (if x4 < (x0.length : Int) then ((watchmanref23_OwnVote.f ((rd_T36 x0 x4).f0) ((rd_T36 x0 x4).f1) ((rd_T36 x0 x4).f2) ((rd_T36 x0 x4).f3)).bind fun bt211 => (some (bt211.1, bt211.2.1, bt211.2.2.1, bt211.2.2.2, true))) else (none)) else (none))
def watchmanref23_Best.f (k : Nat) (l0 : List (S36)) : Option (Int × Int × Int × List ByteArray × Bool) := if (l0.length : Int) = 0 then (some (0, 0, 0, ([] : List ByteArray), false)) else (watchmanref23_Best.l0 k l0 0 1)
theorem watchmanref23_Best.mono_l : ∀ k, (∀ y0 y1 y2, LeO (watchmanref23_Best.l0 k y0 y1 y2) (watchmanref23_Best.l0 (k + 1) y0 y1 y2))
  | 0 => fun _ _ _ r h => by simp [watchmanref23_Best.l0] at h
  | k + 1 => by
    have ih0 := watchmanref23_Best.mono_l k
    · intro y0 y1 y2
      unfold watchmanref23_Best.l0
      repeat' first
      | (with_reducible exact ih0 _ _ _)
      | (with_reducible exact LeO.refl _)
      | (with_reducible exact LeO.none _)
      | (with_reducible refine LeO.ite ?_ ?_)
      | (with_reducible refine LeO.bind ?_ (fun _ => ?_))
      | exact ih0 _ _ _
      | exact LeO.none _
      | refine LeO.ite ?_ ?_
      | refine LeO.bind ?_ (fun _ => ?_)
theorem watchmanref23_Best.mono : ∀ a0 k, LeO (watchmanref23_Best.f k a0) (watchmanref23_Best.f (k + 1) a0) := by
  intro a0 k
  have ih0 := watchmanref23_Best.mono_l k
  unfold watchmanref23_Best.f
  repeat' first
      | (with_reducible exact ih0 _ _ _)
      | (with_reducible exact LeO.refl _)
      | (with_reducible exact LeO.none _)
      | (with_reducible refine LeO.ite ?_ ?_)
      | (with_reducible refine LeO.bind ?_ (fun _ => ?_))
      | exact ih0 _ _ _
      | exact LeO.none _
      | refine LeO.ite ?_ ?_
      | refine LeO.bind ?_ (fun _ => ?_)
set_option maxHeartbeats 8000000 in
set_option maxRecDepth 100000 in
theorem watchmanref23_Best.calls (k : Nat) (A0 : Option Addr) (c0 : Nat) (l0 : List (S36)) (r1 : Int) (r2 : Int) (r3 : Int) (r4 : List ByteArray) (r5 : Bool) (w : World) (hr0 : Kd.C k36 w A0 l0.length l0) (hc0 : l0.length ≤ c0) (h : watchmanref23_Best.f k l0 = some (r1, r2, r3, r4, r5)) :
    Calls Try.prog 22 #[.slice A0 l0.length c0] w fun e w' => ∃ v3_ : Value, e = .returned (.tuple #[.agg #[.int .i64 r1, .int .i64 r2, .int .i64 r3, v3_], .bool r5]) ∧ Kd.R Kd.string 9 w' w.heap.size (fun _ => True) v3_ r4 ∧ Below w.heap.size w w' := by
  have hu36 := Try.underlying36
  have HR0 := Aside0.mk hr0
  have HC0 := Aside0.mk hc0
  clear hr0 hc0
  have HB := Aside0.mk (Below.refl w.heap.size w)
  have H : (if (l0.length : Int) = 0 then (some (0, 0, 0, ([] : List ByteArray), false)) else (watchmanref23_Best.l0 k l0 0 1)) = some (r1, r2, r3, r4, r5) := h
  clear h
  by_cases c2 : (l0.length : Int) = 0
  · rw [if_pos c2] at H
    have c2b0 : ((l0.length : Int) == 0) = true := beq_iff_eq.mpr c2
    have c2b1 : ((l0.length : Int) != 0) = false := bne_eq_false_iff_eq.mpr c2
    clear c2
    simp only [Option.some.injEq, Prod.mk.injEq] at H
    obtain ⟨rfl, rfl, rfl, rfl, rfl⟩ := H
    go_enter Try.func22, Try.ntmps22
    go_wp2_with (first | ((with_reducible refine gate_dst (N := 2) rfl ?_); (try (refine gate_guard (by rfl) ?_; dsimp only)); refine box_event ?hg (N := 2) ?hd (cs := #[.int .i64 0, .int .i64 0, .int .i64 0, .slice none 0 0]) (t := 36) ?hr ?_; (case hd => rfl); (case hg => rfl); (case hr => first | (go_simp; done) | (go_simp; rfl)); intro gb203 hg w3 hbox hb; have BK203 := Aside0.mk (hbox); have GW203 := Aside0.mk ((by rw [hg]; exact (below_size HB.out) : w.heap.size ≤ gb203)); have GE203 := Aside0.mk ((by rw [hg]; exact (below_size HB.out) : w.heap.size ≤ gb203)); replace HB := Aside0.mk (below_step HB.out hb); clear hb hbox hg; have hcz4_0 : w3.cell? ⟨gb203, 0, none⟩ = some (.int .i64 0) := (blk_cell BK203.out 0).trans rfl; have hcz4_1 : w3.cell? ⟨gb203, 1, none⟩ = some (.int .i64 0) := (blk_cell BK203.out 1).trans rfl; have hcz4_2 : w3.cell? ⟨gb203, 2, none⟩ = some (.int .i64 0) := (blk_cell BK203.out 2).trans rfl; have hcz4_3 : w3.cell? ⟨gb203, 3, none⟩ = some (.slice none 0 0) := (blk_cell BK203.out 3).trans rfl; have hfz4_0 := blk_frozen BK203.out 0; have hfz4_1 := blk_frozen BK203.out 1; have hfz4_2 := blk_frozen BK203.out 2; have hfz4_3 := blk_frozen BK203.out 3))
    refine bodyPost_ret (results_ct rfl _ _ gb203 36 #[.int .i64 0, .int .i64 0, .int .i64 0, .slice none 0 0] (0, 0) _ rfl (by refine blk_put (cs := #[.int .i64 0, .int .i64 0, .int .i64 0, .slice none 0 0]) ?_ 3 _ rfl; refine blk_put (cs := #[.int .i64 0, .int .i64 0, .int .i64 0, .slice none 0 0]) ?_ 2 _ rfl; refine blk_put (cs := #[.int .i64 0, .int .i64 0, .int .i64 0, .slice none 0 0]) ?_ 1 _ rfl; refine blk_put (cs := #[.int .i64 0, .int .i64 0, .int .i64 0, .slice none 0 0]) ?_ 0 _ rfl; exact BK203.out) Try.underlying36 rfl (by kernel_rfl)) rfl ?_
    exact ⟨_, by first | rfl | (simp [errW_none, errW_some] <;> rfl) | (simp [*, errW_none, errW_some] <;> rfl), by first | exact Kd.R_nil _ _ _ _ _ | exact Kd.N_nil _ _ _ _ _ | exact Kd.V_nil _ _ _ _ _ | exact Kd.Q_nil _ _ _ _ _ | exact Kd.S_nil _ _ _ _ _, by repeat (with_reducible first | exact HB.out | apply pw_below_drewN | apply below_drew1 | refine below_set ?_ GE203.out)⟩
  · rw [if_neg c2] at H
    have c2b0 : ((l0.length : Int) == 0) = false := beq_eq_false_iff_ne.mpr c2
    have c2b1 : ((l0.length : Int) != 0) = true := bne_iff_ne.mpr c2
    have c2b2 : ¬ (l0 = []) := fun h_ => c2 (by rw [h_]; rfl)
    have H' := Aside0.mk H
    clear H
    go_enter Try.func22, Try.ntmps22
    go_wp2_with (first | ((with_reducible refine gate_dst (N := 2) rfl ?_); (try (refine gate_guard (by rfl) ?_; dsimp only)); refine box_event ?hg (N := 2) ?hd (cs := #[.int .i64 0, .int .i64 0, .int .i64 0, .slice none 0 0]) (t := 36) ?hr ?_; (case hd => rfl); (case hg => rfl); (case hr => first | (go_simp; done) | (go_simp; rfl)); intro gb203 hg w5 hbox hb; have BK203 := Aside0.mk (hbox); have GW203 := Aside0.mk ((by rw [hg]; exact (below_size HB.out) : w.heap.size ≤ gb203)); have GE203 := Aside0.mk ((by rw [hg]; exact (below_size HB.out) : w.heap.size ≤ gb203)); replace HB := Aside0.mk (below_step HB.out hb); clear hb hbox hg))
    go_loopg [4, 5] k (fun kq v4 v5 w' => ∃ (x4_1 : Int) (x5_1 : Int), v4 = .int .i64 x4_1 ∧ v5 = .int .i64 x5_1 ∧ Aside0 (watchmanref23_Best.l0 kq l0 x4_1 x5_1 = some (r1, r2, r3, r4, r5)) ∧ Aside0 (kq ≤ k) ∧ Aside0 (w'.heap[gb203]? = some (.cells #[.int .i64 0, .int .i64 0, .int .i64 0, (.slice none 0 0)] 36 (0, 0))) ∧ Aside0 (Below w.heap.size w w'))
    case atStart => exact ⟨(0), (1), (by first | rfl | (simp; done) | (simp [*]; done)), (by first | rfl | (simp; done) | (simp [*]; done)), H', ⟨Nat.le_refl _⟩, ⟨by (with_reducible repeat (first | refine blk_drewN ?_ _ | refine blk_drew ?_ | refine blk_alloc ?_ _)); exact BK203.out⟩, ⟨by repeat (with_reducible first | exact HB.out | apply pw_below_drewN | apply below_drew1 | refine below_set ?_ GE203.out)⟩⟩
    case round =>
      clear H'
      try clear c2
      try clear c2b0
      try clear c2b1
      try clear c2b2
      try clear p2
      try clear hcz4_0
      try clear hcz4_1
      try clear hcz4_2
      try clear hcz4_3
      try clear hfz4_0
      try clear hfz4_1
      try clear hfz4_2
      try clear hfz4_3
      obtain ⟨x4_1, x5_1, rfl, rfl, HA, HK1, BK203, HB⟩ := hrel
      cases gk with
      | zero => exact absurd HA.out (by simp [watchmanref23_Best.l0])
      | succ k1 =>
        have H := HA.out
        clear HA
        simp only [watchmanref23_Best.l0] at H
        by_cases c6 : x5_1 < (l0.length : Int)
        · rw [if_pos c6] at H
          have c6b0 : decide (x5_1 < (l0.length : Int)) = true := decide_eq_true c6
          clear c6
          by_cases c7 : 0 ≤ x5_1
          · rw [if_pos c7] at H
            have c7b0 : decide (0 ≤ x5_1) = true := decide_eq_true c7
            clear c7
            by_cases c8 : 0 ≤ x4_1
            · rw [if_pos c8] at H
              have c8b0 : decide (0 ≤ x4_1) = true := decide_eq_true c8
              clear c8
              by_cases c9 : x4_1 < (l0.length : Int)
              · rw [if_pos c9] at H
                have c9b0 : decide (x4_1 < (l0.length : Int)) = true := decide_eq_true c9
                clear c9
                by_cases c10 : ((rd_T36 l0 x5_1).f1) > ((rd_T36 l0 x4_1).f1)
                · rw [if_pos c10] at H
                  have c10b0 : decide (((rd_T36 l0 x4_1).f1) < ((rd_T36 l0 x5_1).f1)) = true := decide_eq_true c10
                  clear c10
                  have H' := Aside0.mk H
                  clear H
                  have p204 : 0 ≤ (x5_1 : Int) := of_decide_eq_true (by first | (with_reducible assumption) | assumption)
                  have q204 : x5_1 < (l0.length : Int) := of_decide_eq_true (by first | (with_reducible assumption) | assumption)
                  obtain ⟨ad204, A204_3, c204_3, e204, hx204_0, hx204_1, hx204_2, hx204_3, hl204_3, hi204_3⟩ := at_T36 HR0.out x5_1 p204 q204
                  cases e204
                  replace hx204_0 := (HB.out.cell (World.block_lt_of_cell? w _ hx204_0)).trans hx204_0
                  replace hx204_1 := (HB.out.cell (World.block_lt_of_cell? w _ hx204_1)).trans hx204_1
                  replace hx204_2 := (HB.out.cell (World.block_lt_of_cell? w _ hx204_2)).trans hx204_2
                  replace hx204_3 := (HB.out.cell (World.block_lt_of_cell? w _ hx204_3)).trans hx204_3
                  have HR204_3 := Aside0.mk hi204_3
                  have HC204_3 := Aside0.mk hl204_3
                  clear hi204_3 hl204_3
                  replace p204 := eq_true p204
                  replace q204 := eq_true q204
                  have p205 : 0 ≤ (x4_1 : Int) := of_decide_eq_true (by first | (with_reducible assumption) | assumption)
                  have q205 : x4_1 < (l0.length : Int) := of_decide_eq_true (by first | (with_reducible assumption) | assumption)
                  obtain ⟨ad205, A205_3, c205_3, e205, hx205_0, hx205_1, hx205_2, hx205_3, hl205_3, hi205_3⟩ := at_T36 HR0.out x4_1 p205 q205
                  obtain rfl : ad204 = ad205 := (by injection e205)
                  replace hx205_0 := (HB.out.cell (World.block_lt_of_cell? w _ hx205_0)).trans hx205_0
                  replace hx205_1 := (HB.out.cell (World.block_lt_of_cell? w _ hx205_1)).trans hx205_1
                  replace hx205_2 := (HB.out.cell (World.block_lt_of_cell? w _ hx205_2)).trans hx205_2
                  replace hx205_3 := (HB.out.cell (World.block_lt_of_cell? w _ hx205_3)).trans hx205_3
                  have HR205_3 := Aside0.mk hi205_3
                  have HC205_3 := Aside0.mk hl205_3
                  clear hi205_3 hl205_3
                  replace p205 := eq_true p205
                  replace q205 := eq_true q205
                  go_wp2
                  repeat (go_quiet (fail); try go_wp2)
                  go_roundg k1
                  case measure => have := HK1.out; omega
                  case rel => exact ⟨(x5_1), (wrap64 (x5_1 + 1)), (by first | rfl | (simp; done) | (simp [*]; done)), (by first | rfl | (simp; done) | (simp [*]; done)), H', ⟨by have := HK1.out; omega⟩, ⟨by (with_reducible repeat (first | refine blk_drewN ?_ _ | refine blk_drew ?_ | refine blk_alloc ?_ _)); exact BK203.out⟩, ⟨by repeat (with_reducible first | exact HB.out | apply pw_below_drewN | apply below_drew1 | refine below_set ?_ GE203.out)⟩⟩
                · rw [if_neg c10] at H
                  have c10b0 : decide (((rd_T36 l0 x4_1).f1) < ((rd_T36 l0 x5_1).f1)) = false := decide_eq_false c10
                  clear c10
                  by_cases c11 : ((rd_T36 l0 x5_1).f1) = ((rd_T36 l0 x4_1).f1)
                  · rw [if_pos c11] at H
                    have c11b0 : (((rd_T36 l0 x5_1).f1) == ((rd_T36 l0 x4_1).f1)) = true := beq_iff_eq.mpr c11
                    have c11b1 : (((rd_T36 l0 x5_1).f1) != ((rd_T36 l0 x4_1).f1)) = false := bne_eq_false_iff_eq.mpr c11
                    clear c11
                    by_cases c12 : (((rd_T36 l0 x5_1).f3).length : Int) > (((rd_T36 l0 x4_1).f3).length : Int)
                    · rw [if_pos c12] at H
                      have c12b0 : decide ((((rd_T36 l0 x4_1).f3).length : Int) < (((rd_T36 l0 x5_1).f3).length : Int)) = true := decide_eq_true c12
                      have c12b1 : decide (((rd_T36 l0 x4_1).f3).length < ((rd_T36 l0 x5_1).f3).length) = true := decide_eq_true (Int.ofNat_lt.mp c12)
                      clear c12
                      have H' := Aside0.mk H
                      clear H
                      have p204 : 0 ≤ (x5_1 : Int) := of_decide_eq_true (by first | (with_reducible assumption) | assumption)
                      have q204 : x5_1 < (l0.length : Int) := of_decide_eq_true (by first | (with_reducible assumption) | assumption)
                      obtain ⟨ad204, A204_3, c204_3, e204, hx204_0, hx204_1, hx204_2, hx204_3, hl204_3, hi204_3⟩ := at_T36 HR0.out x5_1 p204 q204
                      cases e204
                      replace hx204_0 := (HB.out.cell (World.block_lt_of_cell? w _ hx204_0)).trans hx204_0
                      replace hx204_1 := (HB.out.cell (World.block_lt_of_cell? w _ hx204_1)).trans hx204_1
                      replace hx204_2 := (HB.out.cell (World.block_lt_of_cell? w _ hx204_2)).trans hx204_2
                      replace hx204_3 := (HB.out.cell (World.block_lt_of_cell? w _ hx204_3)).trans hx204_3
                      have HR204_3 := Aside0.mk hi204_3
                      have HC204_3 := Aside0.mk hl204_3
                      clear hi204_3 hl204_3
                      replace p204 := eq_true p204
                      replace q204 := eq_true q204
                      have p205 : 0 ≤ (x4_1 : Int) := of_decide_eq_true (by first | (with_reducible assumption) | assumption)
                      have q205 : x4_1 < (l0.length : Int) := of_decide_eq_true (by first | (with_reducible assumption) | assumption)
                      obtain ⟨ad205, A205_3, c205_3, e205, hx205_0, hx205_1, hx205_2, hx205_3, hl205_3, hi205_3⟩ := at_T36 HR0.out x4_1 p205 q205
                      obtain rfl : ad204 = ad205 := (by injection e205)
                      replace hx205_0 := (HB.out.cell (World.block_lt_of_cell? w _ hx205_0)).trans hx205_0
                      replace hx205_1 := (HB.out.cell (World.block_lt_of_cell? w _ hx205_1)).trans hx205_1
                      replace hx205_2 := (HB.out.cell (World.block_lt_of_cell? w _ hx205_2)).trans hx205_2
                      replace hx205_3 := (HB.out.cell (World.block_lt_of_cell? w _ hx205_3)).trans hx205_3
                      have HR205_3 := Aside0.mk hi205_3
                      have HC205_3 := Aside0.mk hl205_3
                      clear hi205_3 hl205_3
                      replace p205 := eq_true p205
                      replace q205 := eq_true q205
                      have p206 : 0 ≤ (x5_1 : Int) := of_decide_eq_true (by first | (with_reducible assumption) | assumption)
                      have q206 : x5_1 < (l0.length : Int) := of_decide_eq_true (by first | (with_reducible assumption) | assumption)
                      obtain ⟨ad206, A206_3, c206_3, e206, hx206_0, hx206_1, hx206_2, hx206_3, hl206_3, hi206_3⟩ := at_T36 HR0.out x5_1 p206 q206
                      obtain rfl : ad204 = ad206 := (by injection e206)
                      replace hx206_0 := (HB.out.cell (World.block_lt_of_cell? w _ hx206_0)).trans hx206_0
                      replace hx206_1 := (HB.out.cell (World.block_lt_of_cell? w _ hx206_1)).trans hx206_1
                      replace hx206_2 := (HB.out.cell (World.block_lt_of_cell? w _ hx206_2)).trans hx206_2
                      replace hx206_3 := (HB.out.cell (World.block_lt_of_cell? w _ hx206_3)).trans hx206_3
                      have HR206_3 := Aside0.mk hi206_3
                      have HC206_3 := Aside0.mk hl206_3
                      clear hi206_3 hl206_3
                      replace p206 := eq_true p206
                      replace q206 := eq_true q206
                      have ea_ := Option.some.inj (hx204_3.symm.trans hx206_3)
                      injection ea_ with ea_ en_ ec_
                      subst ea_
                      subst ec_
                      clear en_
                      have p207 : 0 ≤ (x4_1 : Int) := of_decide_eq_true (by first | (with_reducible assumption) | assumption)
                      have q207 : x4_1 < (l0.length : Int) := of_decide_eq_true (by first | (with_reducible assumption) | assumption)
                      obtain ⟨ad207, A207_3, c207_3, e207, hx207_0, hx207_1, hx207_2, hx207_3, hl207_3, hi207_3⟩ := at_T36 HR0.out x4_1 p207 q207
                      obtain rfl : ad204 = ad207 := (by injection e207)
                      replace hx207_0 := (HB.out.cell (World.block_lt_of_cell? w _ hx207_0)).trans hx207_0
                      replace hx207_1 := (HB.out.cell (World.block_lt_of_cell? w _ hx207_1)).trans hx207_1
                      replace hx207_2 := (HB.out.cell (World.block_lt_of_cell? w _ hx207_2)).trans hx207_2
                      replace hx207_3 := (HB.out.cell (World.block_lt_of_cell? w _ hx207_3)).trans hx207_3
                      have HR207_3 := Aside0.mk hi207_3
                      have HC207_3 := Aside0.mk hl207_3
                      clear hi207_3 hl207_3
                      replace p207 := eq_true p207
                      replace q207 := eq_true q207
                      have ea_ := Option.some.inj (hx205_3.symm.trans hx207_3)
                      injection ea_ with ea_ en_ ec_
                      subst ea_
                      subst ec_
                      clear en_
                      have p208 : 0 ≤ (x5_1 : Int) := of_decide_eq_true (by first | (with_reducible assumption) | assumption)
                      have q208 : x5_1 < (l0.length : Int) := of_decide_eq_true (by first | (with_reducible assumption) | assumption)
                      obtain ⟨ad208, A208_3, c208_3, e208, hx208_0, hx208_1, hx208_2, hx208_3, hl208_3, hi208_3⟩ := at_T36 HR0.out x5_1 p208 q208
                      obtain rfl : ad204 = ad208 := (by injection e208)
                      replace hx208_0 := (HB.out.cell (World.block_lt_of_cell? w _ hx208_0)).trans hx208_0
                      replace hx208_1 := (HB.out.cell (World.block_lt_of_cell? w _ hx208_1)).trans hx208_1
                      replace hx208_2 := (HB.out.cell (World.block_lt_of_cell? w _ hx208_2)).trans hx208_2
                      replace hx208_3 := (HB.out.cell (World.block_lt_of_cell? w _ hx208_3)).trans hx208_3
                      have HR208_3 := Aside0.mk hi208_3
                      have HC208_3 := Aside0.mk hl208_3
                      clear hi208_3 hl208_3
                      replace p208 := eq_true p208
                      replace q208 := eq_true q208
                      have ea_ := Option.some.inj (hx204_3.symm.trans hx208_3)
                      injection ea_ with ea_ en_ ec_
                      subst ea_
                      subst ec_
                      clear en_
                      have p209 : 0 ≤ (x4_1 : Int) := of_decide_eq_true (by first | (with_reducible assumption) | assumption)
                      have q209 : x4_1 < (l0.length : Int) := of_decide_eq_true (by first | (with_reducible assumption) | assumption)
                      obtain ⟨ad209, A209_3, c209_3, e209, hx209_0, hx209_1, hx209_2, hx209_3, hl209_3, hi209_3⟩ := at_T36 HR0.out x4_1 p209 q209
                      obtain rfl : ad204 = ad209 := (by injection e209)
                      replace hx209_0 := (HB.out.cell (World.block_lt_of_cell? w _ hx209_0)).trans hx209_0
                      replace hx209_1 := (HB.out.cell (World.block_lt_of_cell? w _ hx209_1)).trans hx209_1
                      replace hx209_2 := (HB.out.cell (World.block_lt_of_cell? w _ hx209_2)).trans hx209_2
                      replace hx209_3 := (HB.out.cell (World.block_lt_of_cell? w _ hx209_3)).trans hx209_3
                      have HR209_3 := Aside0.mk hi209_3
                      have HC209_3 := Aside0.mk hl209_3
                      clear hi209_3 hl209_3
                      replace p209 := eq_true p209
                      replace q209 := eq_true q209
                      have ea_ := Option.some.inj (hx205_3.symm.trans hx209_3)
                      injection ea_ with ea_ en_ ec_
                      subst ea_
                      subst ec_
                      clear en_
                      go_wp2
                      repeat (go_quiet (fail); try go_wp2)
                      go_roundg k1
                      case measure => have := HK1.out; omega
                      case rel => exact ⟨(x5_1), (wrap64 (x5_1 + 1)), (by first | rfl | (simp; done) | (simp [*]; done)), (by first | rfl | (simp; done) | (simp [*]; done)), H', ⟨by have := HK1.out; omega⟩, ⟨by (with_reducible repeat (first | refine blk_drewN ?_ _ | refine blk_drew ?_ | refine blk_alloc ?_ _)); exact BK203.out⟩, ⟨by repeat (with_reducible first | exact HB.out | apply pw_below_drewN | apply below_drew1 | refine below_set ?_ GE203.out)⟩⟩
                    · rw [if_neg c12] at H
                      have c12b0 : decide ((((rd_T36 l0 x4_1).f3).length : Int) < (((rd_T36 l0 x5_1).f3).length : Int)) = false := decide_eq_false c12
                      have c12b1 : decide (((rd_T36 l0 x4_1).f3).length < ((rd_T36 l0 x5_1).f3).length) = false := decide_eq_false (fun h => c12 (Int.ofNat_lt.mpr h))
                      clear c12
                      have H' := Aside0.mk H
                      clear H
                      have p204 : 0 ≤ (x5_1 : Int) := of_decide_eq_true (by first | (with_reducible assumption) | assumption)
                      have q204 : x5_1 < (l0.length : Int) := of_decide_eq_true (by first | (with_reducible assumption) | assumption)
                      obtain ⟨ad204, A204_3, c204_3, e204, hx204_0, hx204_1, hx204_2, hx204_3, hl204_3, hi204_3⟩ := at_T36 HR0.out x5_1 p204 q204
                      cases e204
                      replace hx204_0 := (HB.out.cell (World.block_lt_of_cell? w _ hx204_0)).trans hx204_0
                      replace hx204_1 := (HB.out.cell (World.block_lt_of_cell? w _ hx204_1)).trans hx204_1
                      replace hx204_2 := (HB.out.cell (World.block_lt_of_cell? w _ hx204_2)).trans hx204_2
                      replace hx204_3 := (HB.out.cell (World.block_lt_of_cell? w _ hx204_3)).trans hx204_3
                      have HR204_3 := Aside0.mk hi204_3
                      have HC204_3 := Aside0.mk hl204_3
                      clear hi204_3 hl204_3
                      replace p204 := eq_true p204
                      replace q204 := eq_true q204
                      have p205 : 0 ≤ (x4_1 : Int) := of_decide_eq_true (by first | (with_reducible assumption) | assumption)
                      have q205 : x4_1 < (l0.length : Int) := of_decide_eq_true (by first | (with_reducible assumption) | assumption)
                      obtain ⟨ad205, A205_3, c205_3, e205, hx205_0, hx205_1, hx205_2, hx205_3, hl205_3, hi205_3⟩ := at_T36 HR0.out x4_1 p205 q205
                      obtain rfl : ad204 = ad205 := (by injection e205)
                      replace hx205_0 := (HB.out.cell (World.block_lt_of_cell? w _ hx205_0)).trans hx205_0
                      replace hx205_1 := (HB.out.cell (World.block_lt_of_cell? w _ hx205_1)).trans hx205_1
                      replace hx205_2 := (HB.out.cell (World.block_lt_of_cell? w _ hx205_2)).trans hx205_2
                      replace hx205_3 := (HB.out.cell (World.block_lt_of_cell? w _ hx205_3)).trans hx205_3
                      have HR205_3 := Aside0.mk hi205_3
                      have HC205_3 := Aside0.mk hl205_3
                      clear hi205_3 hl205_3
                      replace p205 := eq_true p205
                      replace q205 := eq_true q205
                      have p206 : 0 ≤ (x5_1 : Int) := of_decide_eq_true (by first | (with_reducible assumption) | assumption)
                      have q206 : x5_1 < (l0.length : Int) := of_decide_eq_true (by first | (with_reducible assumption) | assumption)
                      obtain ⟨ad206, A206_3, c206_3, e206, hx206_0, hx206_1, hx206_2, hx206_3, hl206_3, hi206_3⟩ := at_T36 HR0.out x5_1 p206 q206
                      obtain rfl : ad204 = ad206 := (by injection e206)
                      replace hx206_0 := (HB.out.cell (World.block_lt_of_cell? w _ hx206_0)).trans hx206_0
                      replace hx206_1 := (HB.out.cell (World.block_lt_of_cell? w _ hx206_1)).trans hx206_1
                      replace hx206_2 := (HB.out.cell (World.block_lt_of_cell? w _ hx206_2)).trans hx206_2
                      replace hx206_3 := (HB.out.cell (World.block_lt_of_cell? w _ hx206_3)).trans hx206_3
                      have HR206_3 := Aside0.mk hi206_3
                      have HC206_3 := Aside0.mk hl206_3
                      clear hi206_3 hl206_3
                      replace p206 := eq_true p206
                      replace q206 := eq_true q206
                      have ea_ := Option.some.inj (hx204_3.symm.trans hx206_3)
                      injection ea_ with ea_ en_ ec_
                      subst ea_
                      subst ec_
                      clear en_
                      have p207 : 0 ≤ (x4_1 : Int) := of_decide_eq_true (by first | (with_reducible assumption) | assumption)
                      have q207 : x4_1 < (l0.length : Int) := of_decide_eq_true (by first | (with_reducible assumption) | assumption)
                      obtain ⟨ad207, A207_3, c207_3, e207, hx207_0, hx207_1, hx207_2, hx207_3, hl207_3, hi207_3⟩ := at_T36 HR0.out x4_1 p207 q207
                      obtain rfl : ad204 = ad207 := (by injection e207)
                      replace hx207_0 := (HB.out.cell (World.block_lt_of_cell? w _ hx207_0)).trans hx207_0
                      replace hx207_1 := (HB.out.cell (World.block_lt_of_cell? w _ hx207_1)).trans hx207_1
                      replace hx207_2 := (HB.out.cell (World.block_lt_of_cell? w _ hx207_2)).trans hx207_2
                      replace hx207_3 := (HB.out.cell (World.block_lt_of_cell? w _ hx207_3)).trans hx207_3
                      have HR207_3 := Aside0.mk hi207_3
                      have HC207_3 := Aside0.mk hl207_3
                      clear hi207_3 hl207_3
                      replace p207 := eq_true p207
                      replace q207 := eq_true q207
                      have ea_ := Option.some.inj (hx205_3.symm.trans hx207_3)
                      injection ea_ with ea_ en_ ec_
                      subst ea_
                      subst ec_
                      clear en_
                      have p208 : 0 ≤ (x5_1 : Int) := of_decide_eq_true (by first | (with_reducible assumption) | assumption)
                      have q208 : x5_1 < (l0.length : Int) := of_decide_eq_true (by first | (with_reducible assumption) | assumption)
                      obtain ⟨ad208, A208_3, c208_3, e208, hx208_0, hx208_1, hx208_2, hx208_3, hl208_3, hi208_3⟩ := at_T36 HR0.out x5_1 p208 q208
                      obtain rfl : ad204 = ad208 := (by injection e208)
                      replace hx208_0 := (HB.out.cell (World.block_lt_of_cell? w _ hx208_0)).trans hx208_0
                      replace hx208_1 := (HB.out.cell (World.block_lt_of_cell? w _ hx208_1)).trans hx208_1
                      replace hx208_2 := (HB.out.cell (World.block_lt_of_cell? w _ hx208_2)).trans hx208_2
                      replace hx208_3 := (HB.out.cell (World.block_lt_of_cell? w _ hx208_3)).trans hx208_3
                      have HR208_3 := Aside0.mk hi208_3
                      have HC208_3 := Aside0.mk hl208_3
                      clear hi208_3 hl208_3
                      replace p208 := eq_true p208
                      replace q208 := eq_true q208
                      have ea_ := Option.some.inj (hx204_3.symm.trans hx208_3)
                      injection ea_ with ea_ en_ ec_
                      subst ea_
                      subst ec_
                      clear en_
                      have p209 : 0 ≤ (x4_1 : Int) := of_decide_eq_true (by first | (with_reducible assumption) | assumption)
                      have q209 : x4_1 < (l0.length : Int) := of_decide_eq_true (by first | (with_reducible assumption) | assumption)
                      obtain ⟨ad209, A209_3, c209_3, e209, hx209_0, hx209_1, hx209_2, hx209_3, hl209_3, hi209_3⟩ := at_T36 HR0.out x4_1 p209 q209
                      obtain rfl : ad204 = ad209 := (by injection e209)
                      replace hx209_0 := (HB.out.cell (World.block_lt_of_cell? w _ hx209_0)).trans hx209_0
                      replace hx209_1 := (HB.out.cell (World.block_lt_of_cell? w _ hx209_1)).trans hx209_1
                      replace hx209_2 := (HB.out.cell (World.block_lt_of_cell? w _ hx209_2)).trans hx209_2
                      replace hx209_3 := (HB.out.cell (World.block_lt_of_cell? w _ hx209_3)).trans hx209_3
                      have HR209_3 := Aside0.mk hi209_3
                      have HC209_3 := Aside0.mk hl209_3
                      clear hi209_3 hl209_3
                      replace p209 := eq_true p209
                      replace q209 := eq_true q209
                      have ea_ := Option.some.inj (hx205_3.symm.trans hx209_3)
                      injection ea_ with ea_ en_ ec_
                      subst ea_
                      subst ec_
                      clear en_
                      go_wp2
                      repeat (go_quiet (fail); try go_wp2)
                      go_roundg k1
                      case measure => have := HK1.out; omega
                      case rel => exact ⟨(x4_1), (wrap64 (x5_1 + 1)), (by first | rfl | (simp; done) | (simp [*]; done)), (by first | rfl | (simp; done) | (simp [*]; done)), H', ⟨by have := HK1.out; omega⟩, ⟨by (with_reducible repeat (first | refine blk_drewN ?_ _ | refine blk_drew ?_ | refine blk_alloc ?_ _)); exact BK203.out⟩, ⟨by repeat (with_reducible first | exact HB.out | apply pw_below_drewN | apply below_drew1 | refine below_set ?_ GE203.out)⟩⟩
                  · rw [if_neg c11] at H
                    have c11b0 : (((rd_T36 l0 x5_1).f1) == ((rd_T36 l0 x4_1).f1)) = false := beq_eq_false_iff_ne.mpr c11
                    have c11b1 : (((rd_T36 l0 x5_1).f1) != ((rd_T36 l0 x4_1).f1)) = true := bne_iff_ne.mpr c11
                    have H' := Aside0.mk H
                    clear H
                    have p204 : 0 ≤ (x5_1 : Int) := of_decide_eq_true (by first | (with_reducible assumption) | assumption)
                    have q204 : x5_1 < (l0.length : Int) := of_decide_eq_true (by first | (with_reducible assumption) | assumption)
                    obtain ⟨ad204, A204_3, c204_3, e204, hx204_0, hx204_1, hx204_2, hx204_3, hl204_3, hi204_3⟩ := at_T36 HR0.out x5_1 p204 q204
                    cases e204
                    replace hx204_0 := (HB.out.cell (World.block_lt_of_cell? w _ hx204_0)).trans hx204_0
                    replace hx204_1 := (HB.out.cell (World.block_lt_of_cell? w _ hx204_1)).trans hx204_1
                    replace hx204_2 := (HB.out.cell (World.block_lt_of_cell? w _ hx204_2)).trans hx204_2
                    replace hx204_3 := (HB.out.cell (World.block_lt_of_cell? w _ hx204_3)).trans hx204_3
                    have HR204_3 := Aside0.mk hi204_3
                    have HC204_3 := Aside0.mk hl204_3
                    clear hi204_3 hl204_3
                    replace p204 := eq_true p204
                    replace q204 := eq_true q204
                    have p205 : 0 ≤ (x4_1 : Int) := of_decide_eq_true (by first | (with_reducible assumption) | assumption)
                    have q205 : x4_1 < (l0.length : Int) := of_decide_eq_true (by first | (with_reducible assumption) | assumption)
                    obtain ⟨ad205, A205_3, c205_3, e205, hx205_0, hx205_1, hx205_2, hx205_3, hl205_3, hi205_3⟩ := at_T36 HR0.out x4_1 p205 q205
                    obtain rfl : ad204 = ad205 := (by injection e205)
                    replace hx205_0 := (HB.out.cell (World.block_lt_of_cell? w _ hx205_0)).trans hx205_0
                    replace hx205_1 := (HB.out.cell (World.block_lt_of_cell? w _ hx205_1)).trans hx205_1
                    replace hx205_2 := (HB.out.cell (World.block_lt_of_cell? w _ hx205_2)).trans hx205_2
                    replace hx205_3 := (HB.out.cell (World.block_lt_of_cell? w _ hx205_3)).trans hx205_3
                    have HR205_3 := Aside0.mk hi205_3
                    have HC205_3 := Aside0.mk hl205_3
                    clear hi205_3 hl205_3
                    replace p205 := eq_true p205
                    replace q205 := eq_true q205
                    have p206 : 0 ≤ (x5_1 : Int) := of_decide_eq_true (by first | (with_reducible assumption) | assumption)
                    have q206 : x5_1 < (l0.length : Int) := of_decide_eq_true (by first | (with_reducible assumption) | assumption)
                    obtain ⟨ad206, A206_3, c206_3, e206, hx206_0, hx206_1, hx206_2, hx206_3, hl206_3, hi206_3⟩ := at_T36 HR0.out x5_1 p206 q206
                    obtain rfl : ad204 = ad206 := (by injection e206)
                    replace hx206_0 := (HB.out.cell (World.block_lt_of_cell? w _ hx206_0)).trans hx206_0
                    replace hx206_1 := (HB.out.cell (World.block_lt_of_cell? w _ hx206_1)).trans hx206_1
                    replace hx206_2 := (HB.out.cell (World.block_lt_of_cell? w _ hx206_2)).trans hx206_2
                    replace hx206_3 := (HB.out.cell (World.block_lt_of_cell? w _ hx206_3)).trans hx206_3
                    have HR206_3 := Aside0.mk hi206_3
                    have HC206_3 := Aside0.mk hl206_3
                    clear hi206_3 hl206_3
                    replace p206 := eq_true p206
                    replace q206 := eq_true q206
                    have ea_ := Option.some.inj (hx204_3.symm.trans hx206_3)
                    injection ea_ with ea_ en_ ec_
                    subst ea_
                    subst ec_
                    clear en_
                    have p207 : 0 ≤ (x4_1 : Int) := of_decide_eq_true (by first | (with_reducible assumption) | assumption)
                    have q207 : x4_1 < (l0.length : Int) := of_decide_eq_true (by first | (with_reducible assumption) | assumption)
                    obtain ⟨ad207, A207_3, c207_3, e207, hx207_0, hx207_1, hx207_2, hx207_3, hl207_3, hi207_3⟩ := at_T36 HR0.out x4_1 p207 q207
                    obtain rfl : ad204 = ad207 := (by injection e207)
                    replace hx207_0 := (HB.out.cell (World.block_lt_of_cell? w _ hx207_0)).trans hx207_0
                    replace hx207_1 := (HB.out.cell (World.block_lt_of_cell? w _ hx207_1)).trans hx207_1
                    replace hx207_2 := (HB.out.cell (World.block_lt_of_cell? w _ hx207_2)).trans hx207_2
                    replace hx207_3 := (HB.out.cell (World.block_lt_of_cell? w _ hx207_3)).trans hx207_3
                    have HR207_3 := Aside0.mk hi207_3
                    have HC207_3 := Aside0.mk hl207_3
                    clear hi207_3 hl207_3
                    replace p207 := eq_true p207
                    replace q207 := eq_true q207
                    have ea_ := Option.some.inj (hx205_3.symm.trans hx207_3)
                    injection ea_ with ea_ en_ ec_
                    subst ea_
                    subst ec_
                    clear en_
                    go_wp2
                    repeat (go_quiet (fail); try go_wp2)
                    go_roundg k1
                    case measure => have := HK1.out; omega
                    case rel => exact ⟨(x4_1), (wrap64 (x5_1 + 1)), (by first | rfl | (simp; done) | (simp [*]; done)), (by first | rfl | (simp; done) | (simp [*]; done)), H', ⟨by have := HK1.out; omega⟩, ⟨by (with_reducible repeat (first | refine blk_drewN ?_ _ | refine blk_drew ?_ | refine blk_alloc ?_ _)); exact BK203.out⟩, ⟨by repeat (with_reducible first | exact HB.out | apply pw_below_drewN | apply below_drew1 | refine below_set ?_ GE203.out)⟩⟩
              · rw [if_neg c9] at H
                exact absurd H (by simp)
            · rw [if_neg c8] at H
              exact absurd H (by simp)
          · rw [if_neg c7] at H
            exact absurd H (by simp)
        · rw [if_neg c6] at H
          have c6b0 : decide (x5_1 < (l0.length : Int)) = false := decide_eq_false c6
          clear c6
          by_cases c13 : 0 ≤ x4_1
          · rw [if_pos c13] at H
            have c13b0 : decide (0 ≤ x4_1) = true := decide_eq_true c13
            clear c13
            by_cases c14 : x4_1 < (l0.length : Int)
            · rw [if_pos c14] at H
              have c14b0 : decide (x4_1 < (l0.length : Int)) = true := decide_eq_true c14
              clear c14
              replace H := Option.bind_eq_some_iff.mp H
              obtain ⟨⟨t211, t212, t213, t214⟩, A150, H⟩ := H
              replace H : (some (t211, t212, t213, t214, true)) = some (r1, r2, r3, r4, r5) := H
              have A15 := Aside0.mk A150
              clear A150
              simp only [Option.some.injEq, Prod.mk.injEq] at H
              obtain ⟨rfl, rfl, rfl, rfl, rfl⟩ := H
              have p210 : 0 ≤ (x4_1 : Int) := of_decide_eq_true (by first | (with_reducible assumption) | assumption)
              have q210 : x4_1 < (l0.length : Int) := of_decide_eq_true (by first | (with_reducible assumption) | assumption)
              obtain ⟨ad210, A210_3, c210_3, e210, hx210_0, hx210_1, hx210_2, hx210_3, hl210_3, hi210_3⟩ := at_T36 HR0.out x4_1 p210 q210
              cases e210
              replace hx210_0 := (HB.out.cell (World.block_lt_of_cell? w _ hx210_0)).trans hx210_0
              replace hx210_1 := (HB.out.cell (World.block_lt_of_cell? w _ hx210_1)).trans hx210_1
              replace hx210_2 := (HB.out.cell (World.block_lt_of_cell? w _ hx210_2)).trans hx210_2
              replace hx210_3 := (HB.out.cell (World.block_lt_of_cell? w _ hx210_3)).trans hx210_3
              have HR210_3 := Aside0.mk hi210_3
              have HC210_3 := Aside0.mk hl210_3
              clear hi210_3 hl210_3
              replace p210 := eq_true p210
              replace q210 := eq_true q210
              go_wp2_with (first | (go_at_call 34; (with_reducible refine (watchmanref23_OwnVote.calls ((rd_T36 l0 x4_1).f0) ((rd_T36 l0 x4_1).f1) ((rd_T36 l0 x4_1).f2) _ _ ((rd_T36 l0 x4_1).f3) t211 t212 t213 t214 _ ?side1 ?side2 A15.out).mono ?_); (case side1 => exact (Kd.C_below HR210_3.out HB.out)); (case side2 => exact HC210_3.out); rintro e w16 ⟨v215, rfl, ho0, hb⟩; have HO216 := Aside0.mk (Kd.R_lower ho0 (below_size (by repeat (with_reducible first | exact HB.out | apply pw_below_drewN | apply below_drew1 | refine below_set ?_ GE203.out)))); replace BK203 := bl_ BK203 hb; replace HB := Aside0.mk (below_step (by repeat (with_reducible first | exact HB.out | apply pw_below_drewN | apply below_drew1 | refine below_set ?_ GE203.out)) hb); (try clear hb); (try clear hb2); (try clear hk); (try clear hi); (try clear ho0); have hcz17_0 : w16.cell? ⟨gb203, 0, none⟩ = some (.int .i64 0) := (blk_cell BK203.out 0).trans rfl; have hcz17_1 : w16.cell? ⟨gb203, 1, none⟩ = some (.int .i64 0) := (blk_cell BK203.out 1).trans rfl; have hcz17_2 : w16.cell? ⟨gb203, 2, none⟩ = some (.int .i64 0) := (blk_cell BK203.out 2).trans rfl; have hcz17_3 : w16.cell? ⟨gb203, 3, none⟩ = some (.slice none 0 0) := (blk_cell BK203.out 3).trans rfl; have hfz17_0 := blk_frozen BK203.out 0; have hfz17_1 := blk_frozen BK203.out 1; have hfz17_2 := blk_frozen BK203.out 2; have hfz17_3 := blk_frozen BK203.out 3; obtain ⟨Ao18, co18, eo18⟩ := Kd.R_slice HO216.out; subst eo18))
              refine bodyPost_ret (results_ct rfl _ _ gb203 36 #[.int .i64 t211, .int .i64 t212, .int .i64 t213, .slice Ao18 t214.length co18] (0, 0) _ rfl (by refine blk_put (cs := #[.int .i64 t211, .int .i64 t212, .int .i64 t213, .slice none 0 0]) ?_ 3 _ rfl; refine blk_put (cs := #[.int .i64 t211, .int .i64 t212, .int .i64 0, .slice none 0 0]) ?_ 2 _ rfl; refine blk_put (cs := #[.int .i64 t211, .int .i64 0, .int .i64 0, .slice none 0 0]) ?_ 1 _ rfl; refine blk_put (cs := #[.int .i64 0, .int .i64 0, .int .i64 0, .slice none 0 0]) ?_ 0 _ rfl; exact BK203.out) Try.underlying36 rfl (by kernel_rfl)) rfl ?_
              exact ⟨_, by first | rfl | (simp [errW_none, errW_some] <;> rfl) | (simp [*, errW_none, errW_some] <;> rfl), by (with_reducible repeat (first | apply Kd.R_alloc | apply Kd.R_drewN | apply Kd.R_drew)); exact Kd.R_mono (rf4 (Kd.R_types HO216.out BK203.out (by decide)) (fun _ hk => hk.2) (.int .i64 t211) (.int .i64 t212) (.int .i64 t213) (.slice Ao18 t214.length co18)) (fun _ hk => trivial), by repeat (with_reducible first | exact HB.out | apply pw_below_drewN | apply below_drew1 | refine below_set ?_ GE203.out)⟩
            · rw [if_neg c14] at H
              exact absurd H (by simp)
          · rw [if_neg c13] at H
            exact absurd H (by simp)

end Go.Proofs.Ytncoccpgdgdknaa.F
