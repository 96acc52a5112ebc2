-- Written by a program of this session (xprint.py), out of the translation and of contracts proved by hand.
import Derived.Test.YtlleifklioamlaaF0
import Derived.Test.YtlleifklioamlaaF6
import Derived.Test.YtlleifklioamlaaF7
namespace Go.Proofs.Ytlleifklioamlaa.F
open Go.RowKit Go.Proofs.YtlleifklioamlaaV.PrintWords Go.Proofs.YtlleifklioamlaaV.PrintLast Go.Proofs.YtlleifklioamlaaV.PrintMore
attribute [local go_sem] max2_int min2_int max_two min_two max_three min_three max_four min_four   -- for this text's walks alone
set_option linter.unusedVariables false
set_option linter.unusedSimpArgs false

/-! ### watchmanref06_Pass: function 13 -/
mutual
def watchmanref06_Pass.l0 : Nat → Int → Int → Int → Int → Int → Int → Int → Int → Option (Int × Int × Int × Int × Int × Int)
  | 0, _, _, _, _, _, _, _, _ => none
  | k + 1, x1, x5, x260000, x260001, x260002, x260003, x260004, x260005 => if x5 < 3 then (if x260002 = 4 then (watchmanref06_Pass.j1 k x1 x5 (decide (x260005 ≤ x1)) x260000 x260001 x260002 x260003 x260004 x260005) else (watchmanref06_Pass.j1 k x1 x5 false x260000 x260001 x260002 x260003 x260004 x260005)) else (some (x260000, x260001, x260002, x260003, x260004, x260005))
def watchmanref06_Pass.j1 : Nat → Int → Int → Bool → Int → Int → Int → Int → Int → Int → Option (Int × Int × Int × Int × Int × Int)
  | 0, _, _, _, _, _, _, _, _, _ => none
  | k + 1, x1, x5, x22, x260000, x260001, x260002, x260003, x260004, x260005 => if x22 = true then ((watchmanref06_turn.f k x260000 x260001 x260002 x260003 x260004 x260005 6 x260005 0).bind fun bt262 => (watchmanref06_Pass.l0 k x1 (wrap64 (x5 + 1)) bt262.1 bt262.2.1 bt262.2.2.1 bt262.2.2.2.1 bt262.2.2.2.2.1 bt262.2.2.2.2.2)) else (if x260002 = 1 then (if x260005 ≤ x1 then ((watchmanref06_turn.f k x260000 x260001 x260002 x260003 x260004 x260005 2 x260005 0).bind fun bt268 => (watchmanref06_Pass.l0 k x1 (wrap64 (x5 + 1)) bt268.1 bt268.2.1 bt268.2.2.1 bt268.2.2.2.1 bt268.2.2.2.2.1 bt268.2.2.2.2.2)) else (watchmanref06_Pass.l0 k x1 (wrap64 (x5 + 1)) x260000 x260001 x260002 x260003 x260004 x260005)) else (watchmanref06_Pass.l0 k x1 (wrap64 (x5 + 1)) x260000 x260001 x260002 x260003 x260004 x260005))
end
def watchmanref06_Pass.f (k : Nat) (a0_0 : Int) (a0_1 : Int) (a0_2 : Int) (a0_3 : Int) (a0_4 : Int) (a0_5 : Int) (a1 : Int) : Option (Int × Int × Int × Int × Int × Int) := (watchmanref06_Is.f a0_0 a0_1 a0_2 a0_3 a0_4 a0_5).bind fun t261 => (if t261 = true then (watchmanref06_Pass.l0 k a1 0 a0_0 a0_1 a0_2 a0_3 a0_4 a0_5) else (some (a0_0, a0_1, a0_2, a0_3, a0_4, a0_5)))
theorem watchmanref06_Pass.mono_l : ∀ k, (∀ y0 y1 y2 y3 y4 y5 y6 y7, LeO (watchmanref06_Pass.l0 k y0 y1 y2 y3 y4 y5 y6 y7) (watchmanref06_Pass.l0 (k + 1) y0 y1 y2 y3 y4 y5 y6 y7)) ∧ (∀ y0 y1 y2 y3 y4 y5 y6 y7 y8, LeO (watchmanref06_Pass.j1 k y0 y1 y2 y3 y4 y5 y6 y7 y8) (watchmanref06_Pass.j1 (k + 1) y0 y1 y2 y3 y4 y5 y6 y7 y8))
  | 0 => ⟨fun _ _ _ _ _ _ _ _ r h => by simp [watchmanref06_Pass.l0] at h, fun _ _ _ _ _ _ _ _ _ r h => by simp [watchmanref06_Pass.j1] at h⟩
  | k + 1 => by
    obtain ⟨ih0, ih1⟩ := watchmanref06_Pass.mono_l k
    refine ⟨?_, ?_⟩
    · intro y0 y1 y2 y3 y4 y5 y6 y7
      unfold watchmanref06_Pass.l0
      repeat' first
      | (with_reducible exact ih0 _ _ _ _ _ _ _ _)
      | (with_reducible exact ih1 _ _ _ _ _ _ _ _ _)
      | (with_reducible exact watchmanref06_turn.mono _ _ _ _ _ _ _ _ _ _)
      | (with_reducible exact LeO.refl _)
      | (with_reducible exact LeO.none _)
      | (with_reducible refine LeO.ite ?_ ?_)
      | (with_reducible refine LeO.bind ?_ (fun _ => ?_))
      | exact ih0 _ _ _ _ _ _ _ _
      | exact ih1 _ _ _ _ _ _ _ _ _
      | exact watchmanref06_turn.mono _ _ _ _ _ _ _ _ _ _
      | exact LeO.none _
      | refine LeO.ite ?_ ?_
      | refine LeO.bind ?_ (fun _ => ?_)
    · intro y0 y1 y2 y3 y4 y5 y6 y7 y8
      unfold watchmanref06_Pass.j1
      repeat' first
      | (with_reducible exact ih0 _ _ _ _ _ _ _ _)
      | (with_reducible exact ih1 _ _ _ _ _ _ _ _ _)
      | (with_reducible exact watchmanref06_turn.mono _ _ _ _ _ _ _ _ _ _)
      | (with_reducible exact LeO.refl _)
      | (with_reducible exact LeO.none _)
      | (with_reducible refine LeO.ite ?_ ?_)
      | (with_reducible refine LeO.bind ?_ (fun _ => ?_))
      | exact ih0 _ _ _ _ _ _ _ _
      | exact ih1 _ _ _ _ _ _ _ _ _
      | exact watchmanref06_turn.mono _ _ _ _ _ _ _ _ _ _
      | exact LeO.none _
      | refine LeO.ite ?_ ?_
      | refine LeO.bind ?_ (fun _ => ?_)
theorem watchmanref06_Pass.mono : ∀ a0 a1 a2 a3 a4 a5 a6 k, LeO (watchmanref06_Pass.f k a0 a1 a2 a3 a4 a5 a6) (watchmanref06_Pass.f (k + 1) a0 a1 a2 a3 a4 a5 a6) := by
  intro a0 a1 a2 a3 a4 a5 a6 k
  obtain ⟨ih0, ih1⟩ := watchmanref06_Pass.mono_l k
  unfold watchmanref06_Pass.f
  repeat' first
      | (with_reducible exact ih0 _ _ _ _ _ _ _ _)
      | (with_reducible exact ih1 _ _ _ _ _ _ _ _ _)
      | (with_reducible exact watchmanref06_turn.mono _ _ _ _ _ _ _ _ _ _)
      | (with_reducible exact LeO.refl _)
      | (with_reducible exact LeO.none _)
      | (with_reducible refine LeO.ite ?_ ?_)
      | (with_reducible refine LeO.bind ?_ (fun _ => ?_))
      | exact ih0 _ _ _ _ _ _ _ _
      | exact ih1 _ _ _ _ _ _ _ _ _
      | exact watchmanref06_turn.mono _ _ _ _ _ _ _ _ _ _
      | exact LeO.none _
      | refine LeO.ite ?_ ?_
      | refine LeO.bind ?_ (fun _ => ?_)
set_option maxHeartbeats 8000000 in
set_option maxRecDepth 100000 in
theorem watchmanref06_Pass.calls (k : Nat) (a0_0 : Int) (a0_1 : Int) (a0_2 : Int) (a0_3 : Int) (a0_4 : Int) (a0_5 : Int) (a1 : Int) (r1 : Int) (r2 : Int) (r3 : Int) (r4 : Int) (r5 : Int) (r6 : Int) (w : World) (h : watchmanref06_Pass.f k a0_0 a0_1 a0_2 a0_3 a0_4 a0_5 a1 = some (r1, r2, r3, r4, r5, r6)) :
    Calls Try.prog 13 #[.agg #[.int .i64 a0_0, .int .i64 a0_1, .int .i64 a0_2, .int .i64 a0_3, .int .i64 a0_4, .int .i64 a0_5], .int .i64 a1] w fun e w' => e = .returned (.agg #[.int .i64 r1, .int .i64 r2, .int .i64 r3, .int .i64 r4, .int .i64 r5, .int .i64 r6]) ∧ Below w.heap.size w w' := by
  have hu25 := Try.underlying25
  have HB := Aside0.mk (Below.refl w.heap.size w)
  have H : ((watchmanref06_Is.f a0_0 a0_1 a0_2 a0_3 a0_4 a0_5).bind fun t261 => (if t261 = true then (watchmanref06_Pass.l0 k a1 0 a0_0 a0_1 a0_2 a0_3 a0_4 a0_5) else (some (a0_0, a0_1, a0_2, a0_3, a0_4, a0_5)))) = some (r1, r2, r3, r4, r5, r6) := h
  clear h
  replace H := Option.bind_eq_some_iff.mp H
  obtain ⟨t261, A30, H⟩ := H
  replace H : (if t261 = true then (watchmanref06_Pass.l0 k a1 0 a0_0 a0_1 a0_2 a0_3 a0_4 a0_5) else (some (a0_0, a0_1, a0_2, a0_3, a0_4, a0_5))) = some (r1, r2, r3, r4, r5, r6) := H
  have A3 := Aside0.mk A30
  clear A30
  by_cases c4 : t261 = true
  · subst c4
    have H1 : (watchmanref06_Pass.l0 k a1 0 a0_0 a0_1 a0_2 a0_3 a0_4 a0_5) = some (r1, r2, r3, r4, r5, r6) := by rw [if_pos rfl] at H; exact H
    clear H
    have H := H1
    clear H1
    have H' := Aside0.mk H
    clear H
    go_enter Try.func13, Try.ntmps13
    go_wp2_with (first | ((with_reducible refine gate_dst (N := 2) rfl ?_); refine box_event ?hg (N := 2) ?hd (cs := #[.int .i64 a0_0, .int .i64 a0_1, .int .i64 a0_2, .int .i64 a0_3, .int .i64 a0_4, .int .i64 a0_5]) (t := 25) ?hr ?_; (case hd => rfl); (case hg => rfl); (case hr => first | (go_simp; done) | (go_simp; rfl)); intro gb259 hg w5 hbox hb; have n0_ := Aside0.mk (below_step (by repeat (first | (with_reducible first | exact HB.out | apply below_alloc | apply pw_below_drewN | apply below_drew1) | exact HB.out)) hb); have n1_ := Aside0.mk (hbox); have n2_ := Aside0.mk ((by rw [hg]; exact (below_size (by repeat (first | (with_reducible first | exact HB.out | apply below_alloc | apply pw_below_drewN | apply below_drew1) | exact HB.out))) : w.heap.size ≤ gb259)); have n3_ := Aside0.mk ((by rw [hg]; exact (below_size (by repeat (first | (with_reducible first | exact HB.out | apply below_alloc | apply pw_below_drewN | apply below_drew1) | exact HB.out))) : w.heap.size ≤ gb259)); clear HB; have HB := n0_; have BK259 := n1_; have GW259 := n2_; have GE259 := n3_; clear n0_ n1_ n2_ n3_; clear hb hbox hg) | ((with_reducible refine gate_dst (N := 4) rfl ?_); refine box_event ?hg (N := 4) ?hd (cs := #[.int .i64 0, .int .i64 0, .int .i64 0, .int .i64 0, .int .i64 0, .int .i64 0]) (t := 25) ?hr ?_; (case hd => rfl); (case hg => rfl); (case hr => first | (go_simp; done) | (go_simp; rfl)); intro gb260 hg w6 hbox hb; have n0_ := Aside0.mk (blk_below (g := gb259) (o := .cells #[.int .i64 a0_0, .int .i64 a0_1, .int .i64 a0_2, .int .i64 a0_3, .int .i64 a0_4, .int .i64 a0_5] 25 (0, 0)) (by (with_reducible repeat (first | refine blk_drewN ?_ _ | refine blk_drew ?_ | refine blk_alloc ?_ _)); exact BK259.out) hb); have n1_ := Aside0.mk (below_step (by repeat (first | (with_reducible first | exact HB.out | apply below_alloc | apply pw_below_drewN | apply below_drew1 | refine below_set ?_ GE259.out) | exact HB.out)) hb); have n2_ := Aside0.mk (hbox); have n3_ := Aside0.mk ((by rw [hg]; exact (below_size (by repeat (first | (with_reducible first | exact HB.out | apply below_alloc | apply pw_below_drewN | apply below_drew1 | refine below_set ?_ GE259.out) | exact HB.out))) : w.heap.size ≤ gb260)); have n4_ := Aside0.mk ((by rw [hg]; exact (below_size (by repeat (first | (with_reducible first | exact HB.out | apply below_alloc | apply pw_below_drewN | apply below_drew1 | refine below_set ?_ GE259.out) | exact HB.out))) : w.heap.size ≤ gb260)); have n5_ := Aside0.mk ((by rw [hg]; exact Nat.ne_of_lt (blk_lt (g := gb259) (o := .cells #[.int .i64 a0_0, .int .i64 a0_1, .int .i64 a0_2, .int .i64 a0_3, .int .i64 a0_4, .int .i64 a0_5] 25 (0, 0)) (by (with_reducible repeat (first | refine blk_drewN ?_ _ | refine blk_drew ?_ | refine blk_alloc ?_ _)); exact BK259.out)) : gb259 ≠ gb260)); have n6_ := Aside0.mk ((by rw [hg]; exact Nat.ne_of_gt (blk_lt (g := gb259) (o := .cells #[.int .i64 a0_0, .int .i64 a0_1, .int .i64 a0_2, .int .i64 a0_3, .int .i64 a0_4, .int .i64 a0_5] 25 (0, 0)) (by (with_reducible repeat (first | refine blk_drewN ?_ _ | refine blk_drew ?_ | refine blk_alloc ?_ _)); exact BK259.out)) : gb260 ≠ gb259)); clear BK259; clear HB; have BK259 := n0_; have HB := n1_; have BK260 := n2_; have GW260 := n3_; have GE260 := n4_; have NB259_260 := n5_; have NB260_259 := n6_; clear n0_ n1_ n2_ n3_ n4_ n5_ n6_; clear hb hbox hg; have hnb7 := NB259_260.out; have hnc7 := NB260_259.out; have hcz8_0 : w6.cell? ⟨gb259, 0, none⟩ = some (.int .i64 a0_0) := (blk_cell BK259.out 0).trans rfl; have hcz8_1 : w6.cell? ⟨gb259, 1, none⟩ = some (.int .i64 a0_1) := (blk_cell BK259.out 1).trans rfl; have hcz8_2 : w6.cell? ⟨gb259, 2, none⟩ = some (.int .i64 a0_2) := (blk_cell BK259.out 2).trans rfl; have hcz8_3 : w6.cell? ⟨gb259, 3, none⟩ = some (.int .i64 a0_3) := (blk_cell BK259.out 3).trans rfl; have hcz8_4 : w6.cell? ⟨gb259, 4, none⟩ = some (.int .i64 a0_4) := (blk_cell BK259.out 4).trans rfl; have hcz8_5 : w6.cell? ⟨gb259, 5, none⟩ = some (.int .i64 a0_5) := (blk_cell BK259.out 5).trans rfl; have hfz8_0 := blk_frozen BK259.out 0; have hfz8_1 := blk_frozen BK259.out 1; have hfz8_2 := blk_frozen BK259.out 2; have hfz8_3 := blk_frozen BK259.out 3; have hfz8_4 := blk_frozen BK259.out 4; have hfz8_5 := blk_frozen BK259.out 5) | ((with_reducible refine gate_callee (f := 19) rfl ?_); refine goesL_ (some 7) rfl rfl Try.func19 (by kernel_rfl) rfl #[.agg #[.int .i64 a0_0, .int .i64 a0_1, .int .i64 a0_2, .int .i64 a0_3, .int .i64 a0_4, .int .i64 a0_5]] rfl (by (try simp only [List.map_toArray, List.map_cons, List.map_nil]); first | done | rfl | (simp only [List.length_drop, List.length_take]; rfl)) ?_; (with_reducible refine (watchmanref06_Is.calls a0_0 a0_1 a0_2 a0_3 a0_4 a0_5 true _ A3.out).mono ?_); rintro e w9 ⟨rfl, hb⟩; refine ⟨_, rfl, ?_⟩; have n0_ := Aside0.mk (blk_below (g := gb259) (o := .cells #[.int .i64 a0_0, .int .i64 a0_1, .int .i64 a0_2, .int .i64 a0_3, .int .i64 a0_4, .int .i64 a0_5] 25 (0, 0)) (by (with_reducible repeat (first | refine blk_drewN ?_ _ | refine blk_drew ?_ | refine blk_alloc ?_ _)); exact BK259.out) hb); have n1_ := Aside0.mk (blk_below (g := gb260) (o := .cells #[.int .i64 0, .int .i64 0, .int .i64 0, .int .i64 0, .int .i64 0, .int .i64 0] 25 (0, 0)) (by (with_reducible repeat (first | refine blk_drewN ?_ _ | refine blk_drew ?_ | refine blk_alloc ?_ _)); exact BK260.out) hb); have n2_ := Aside0.mk (below_step (by repeat (first | (with_reducible first | exact HB.out | apply below_alloc | apply pw_below_drewN | apply below_drew1 | refine below_set ?_ GE259.out | refine below_set ?_ GE260.out) | exact HB.out)) hb); clear BK259; clear BK260; clear HB; have BK259 := n0_; have BK260 := n1_; have HB := n2_; clear n0_ n1_ n2_; (try clear hb); (try clear hb2); (try clear hk); (try clear hi)))
    go_loopg [5] k (fun kq v5 w' => ∃ (x5_1 : Int) (x260000_1 : Int) (x260001_1 : Int) (x260002_1 : Int) (x260003_1 : Int) (x260004_1 : Int) (x260005_1 : Int), v5 = .int .i64 x5_1 ∧ Aside0 (watchmanref06_Pass.l0 kq a1 x5_1 x260000_1 x260001_1 x260002_1 x260003_1 x260004_1 x260005_1 = some (r1, r2, r3, r4, r5, r6)) ∧ Aside0 (kq ≤ k) ∧ Aside0 (w'.heap[gb259]? = some (.cells #[.int .i64 x260000_1, .int .i64 x260001_1, .int .i64 x260002_1, .int .i64 x260003_1, .int .i64 x260004_1, .int .i64 x260005_1] 25 (0, 0))) ∧ Aside0 (w'.heap[gb260]? = some (.cells #[.int .i64 0, .int .i64 0, .int .i64 0, .int .i64 0, .int .i64 0, .int .i64 0] 25 (0, 0))) ∧ Aside0 (Below w.heap.size w w'))
    case atStart => exact ⟨(0), (a0_0), (a0_1), (a0_2), (a0_3), (a0_4), (a0_5), (by first | rfl | (simp; done) | (simp [*]; done)), H', ⟨Nat.le_refl _⟩, ⟨by (with_reducible repeat (first | refine blk_drewN ?_ _ | refine blk_drew ?_ | refine blk_alloc ?_ _)); exact BK259.out⟩, ⟨by (with_reducible repeat (first | refine blk_drewN ?_ _ | refine blk_drew ?_ | refine blk_alloc ?_ _)); exact BK260.out⟩, ⟨by repeat (first | (with_reducible first | exact HB.out | apply below_alloc | apply pw_below_drewN | apply below_drew1 | refine below_set ?_ GE259.out | refine below_set ?_ GE260.out) | exact HB.out)⟩⟩
    case round =>
      clear H'
      try clear c1
      try clear p2
      try clear c4
      try clear c7
      try clear hcz8_0
      try clear hcz8_1
      try clear hcz8_2
      try clear hcz8_3
      try clear hcz8_4
      try clear hcz8_5
      try clear hfz8_0
      try clear hfz8_1
      try clear hfz8_2
      try clear hfz8_3
      try clear hfz8_4
      try clear hfz8_5
      obtain ⟨x5_1, x260000_1, x260001_1, x260002_1, x260003_1, x260004_1, x260005_1, rfl, HA, HK1, BK259, BK260, HB⟩ := hrel
      cases gk with
      | zero => exact absurd HA.out (by simp [watchmanref06_Pass.l0])
      | succ k1 =>
        have H := HA.out
        clear HA
        simp only [watchmanref06_Pass.l0] at H
        by_cases c10 : x5_1 < 3
        · rw [if_pos c10] at H
          have c10b0 : decide (x5_1 < 3) = true := decide_eq_true c10
          clear c10
          have HC11 := Aside0.mk H
          clear H
          go_upto_region 6 with (fail)
          go_cut [22] (fun v22 wc => ∃ (kq : Nat) (x22_10 : Bool), v22 = .bool x22_10 ∧ Aside0 (watchmanref06_Pass.j1 kq a1 x5_1 x22_10 x260000_1 x260001_1 x260002_1 x260003_1 x260004_1 x260005_1 = some (r1, r2, r3, r4, r5, r6)) ∧ Aside0 (kq ≤ k1) ∧ Aside0 (wc.heap[gb259]? = some (.cells #[.int .i64 x260000_1, .int .i64 x260001_1, .int .i64 x260002_1, .int .i64 x260003_1, .int .i64 x260004_1, .int .i64 x260005_1] 25 (0, 0))) ∧ Aside0 (wc.heap[gb260]? = some (.cells #[.int .i64 0, .int .i64 0, .int .i64 0, .int .i64 0, .int .i64 0, .int .i64 0] 25 (0, 0))) ∧ Aside0 (Below w.heap.size w wc))
          case first =>
            have H := HC11.out
            clear HC11
            by_cases c12 : x260002_1 = 4
            · rw [if_pos c12] at H
              have c12b0 : (x260002_1 == 4) = true := beq_iff_eq.mpr c12
              have c12b1 : (x260002_1 != 4) = false := bne_eq_false_iff_eq.mpr c12
              clear c12
              (first | rw [c12b0] | (simp only [i64_w, i32_w]; rw [c12b0]) | skip)
              have H' := Aside0.mk H
              clear H
              have hnb13 := NB259_260.out
              have hnc13 := NB260_259.out
              have hcz14_0 : wr.cell? ⟨gb259, 0, none⟩ = some (.int .i64 x260000_1) := (blk_cell BK259.out 0).trans rfl
              have hcz14_1 : wr.cell? ⟨gb259, 1, none⟩ = some (.int .i64 x260001_1) := (blk_cell BK259.out 1).trans rfl
              have hcz14_2 : wr.cell? ⟨gb259, 2, none⟩ = some (.int .i64 x260002_1) := (blk_cell BK259.out 2).trans rfl
              have hcz14_3 : wr.cell? ⟨gb259, 3, none⟩ = some (.int .i64 x260003_1) := (blk_cell BK259.out 3).trans rfl
              have hcz14_4 : wr.cell? ⟨gb259, 4, none⟩ = some (.int .i64 x260004_1) := (blk_cell BK259.out 4).trans rfl
              have hcz14_5 : wr.cell? ⟨gb259, 5, none⟩ = some (.int .i64 x260005_1) := (blk_cell BK259.out 5).trans rfl
              have hfz14_0 := blk_frozen BK259.out 0
              have hfz14_1 := blk_frozen BK259.out 1
              have hfz14_2 := blk_frozen BK259.out 2
              have hfz14_3 := blk_frozen BK259.out 3
              have hfz14_4 := blk_frozen BK259.out 4
              have hfz14_5 := blk_frozen BK259.out 5
              go_wp2
              go_meet
              case rel => exact ⟨_, (decide (x260005_1 ≤ a1)), (by first | rfl | (simp; done) | (simp [*]; done)), H', ⟨by have := HK1.out; first | omega | exact Nat.le_refl _⟩, ⟨by (with_reducible repeat (first | refine blk_drewN ?_ _ | refine blk_drew ?_ | refine blk_alloc ?_ _)); exact BK259.out⟩, ⟨by (with_reducible repeat (first | refine blk_drewN ?_ _ | refine blk_drew ?_ | refine blk_alloc ?_ _)); exact BK260.out⟩, ⟨by repeat (first | (with_reducible first | exact HB.out | apply below_alloc | apply pw_below_drewN | apply below_drew1 | refine below_set ?_ GE259.out | refine below_set ?_ GE260.out) | exact HB.out)⟩⟩
            · rw [if_neg c12] at H
              have c12b0 : (x260002_1 == 4) = false := beq_eq_false_iff_ne.mpr c12
              have c12b1 : (x260002_1 != 4) = true := bne_iff_ne.mpr c12
              (first | rw [c12b0] | (simp only [i64_w, i32_w]; rw [c12b0]) | skip)
              have H' := Aside0.mk H
              clear H
              have hnb15 := NB259_260.out
              have hnc15 := NB260_259.out
              have hcz16_0 : wr.cell? ⟨gb259, 0, none⟩ = some (.int .i64 x260000_1) := (blk_cell BK259.out 0).trans rfl
              have hcz16_1 : wr.cell? ⟨gb259, 1, none⟩ = some (.int .i64 x260001_1) := (blk_cell BK259.out 1).trans rfl
              have hcz16_2 : wr.cell? ⟨gb259, 2, none⟩ = some (.int .i64 x260002_1) := (blk_cell BK259.out 2).trans rfl
              have hcz16_3 : wr.cell? ⟨gb259, 3, none⟩ = some (.int .i64 x260003_1) := (blk_cell BK259.out 3).trans rfl
              have hcz16_4 : wr.cell? ⟨gb259, 4, none⟩ = some (.int .i64 x260004_1) := (blk_cell BK259.out 4).trans rfl
              have hcz16_5 : wr.cell? ⟨gb259, 5, none⟩ = some (.int .i64 x260005_1) := (blk_cell BK259.out 5).trans rfl
              have hfz16_0 := blk_frozen BK259.out 0
              have hfz16_1 := blk_frozen BK259.out 1
              have hfz16_2 := blk_frozen BK259.out 2
              have hfz16_3 := blk_frozen BK259.out 3
              have hfz16_4 := blk_frozen BK259.out 4
              have hfz16_5 := blk_frozen BK259.out 5
              go_wp2
              go_meet
              case rel => exact ⟨_, (false), (by first | rfl | (simp; done) | (simp [*]; done)), H', ⟨by have := HK1.out; first | omega | exact Nat.le_refl _⟩, ⟨by (with_reducible repeat (first | refine blk_drewN ?_ _ | refine blk_drew ?_ | refine blk_alloc ?_ _)); exact BK259.out⟩, ⟨by (with_reducible repeat (first | refine blk_drewN ?_ _ | refine blk_drew ?_ | refine blk_alloc ?_ _)); exact BK260.out⟩, ⟨by repeat (first | (with_reducible first | exact HB.out | apply below_alloc | apply pw_below_drewN | apply below_drew1 | refine below_set ?_ GE259.out | refine below_set ?_ GE260.out) | exact HB.out)⟩⟩
          case rest =>
            clear HC11
            try clear c1
            try clear p2
            try clear c4
            try clear c7
            try clear c10
            try clear c10b0
            try clear c12
            try clear c12b0
            try clear c12b1
            try clear c13
            try clear c15
            try clear hcz14_0
            try clear hcz14_1
            try clear hcz14_2
            try clear hcz14_3
            try clear hcz14_4
            try clear hcz14_5
            try clear hcz16_0
            try clear hcz16_1
            try clear hcz16_2
            try clear hcz16_3
            try clear hcz16_4
            try clear hcz16_5
            try clear hcz8_0
            try clear hcz8_1
            try clear hcz8_2
            try clear hcz8_3
            try clear hcz8_4
            try clear hcz8_5
            try clear hfz14_0
            try clear hfz14_1
            try clear hfz14_2
            try clear hfz14_3
            try clear hfz14_4
            try clear hfz14_5
            try clear hfz16_0
            try clear hfz16_1
            try clear hfz16_2
            try clear hfz16_3
            try clear hfz16_4
            try clear hfz16_5
            try clear hfz8_0
            try clear hfz8_1
            try clear hfz8_2
            try clear hfz8_3
            try clear hfz8_4
            try clear hfz8_5
            try clear p2
            obtain ⟨kq, x22_10, rfl, HA, HJ10, BK259, BK260, HB⟩ := hcut
            cases kq with
            | zero => exact absurd HA.out (by simp [watchmanref06_Pass.j1])
            | succ kj10 =>
              have H := HA.out
              clear HA
              simp only [watchmanref06_Pass.j1] at H
              by_cases c17 : x22_10 = true
              · subst c17
                have H1 : ((watchmanref06_turn.f kj10 x260000_1 x260001_1 x260002_1 x260003_1 x260004_1 x260005_1 6 x260005_1 0).bind fun bt262 => (watchmanref06_Pass.l0 kj10 a1 (wrap64 (x5_1 + 1)) bt262.1 bt262.2.1 bt262.2.2.1 bt262.2.2.2.1 bt262.2.2.2.2.1 bt262.2.2.2.2.2)) = some (r1, r2, r3, r4, r5, r6) := by rw [if_pos rfl] at H; exact H
                clear H
                have H := H1
                clear H1
                replace H := Option.bind_eq_some_iff.mp H
                obtain ⟨⟨t262, t263, t264, t265, t266, t267⟩, A180, H⟩ := H
                replace H : (watchmanref06_Pass.l0 kj10 a1 (wrap64 (x5_1 + 1)) t262 t263 t264 t265 t266 t267) = some (r1, r2, r3, r4, r5, r6) := H
                have A18 := Aside0.mk A180
                clear A180
                have H' := Aside0.mk H
                clear H
                have hnb19 := NB259_260.out
                have hnc19 := NB260_259.out
                have hcz20_0 : wc.cell? ⟨gb259, 0, none⟩ = some (.int .i64 x260000_1) := (blk_cell BK259.out 0).trans rfl
                have hcz20_1 : wc.cell? ⟨gb259, 1, none⟩ = some (.int .i64 x260001_1) := (blk_cell BK259.out 1).trans rfl
                have hcz20_2 : wc.cell? ⟨gb259, 2, none⟩ = some (.int .i64 x260002_1) := (blk_cell BK259.out 2).trans rfl
                have hcz20_3 : wc.cell? ⟨gb259, 3, none⟩ = some (.int .i64 x260003_1) := (blk_cell BK259.out 3).trans rfl
                have hcz20_4 : wc.cell? ⟨gb259, 4, none⟩ = some (.int .i64 x260004_1) := (blk_cell BK259.out 4).trans rfl
                have hcz20_5 : wc.cell? ⟨gb259, 5, none⟩ = some (.int .i64 x260005_1) := (blk_cell BK259.out 5).trans rfl
                have hfz20_0 := blk_frozen BK259.out 0
                have hfz20_1 := blk_frozen BK259.out 1
                have hfz20_2 := blk_frozen BK259.out 2
                have hfz20_3 := blk_frozen BK259.out 3
                have hfz20_4 := blk_frozen BK259.out 4
                have hfz20_5 := blk_frozen BK259.out 5
                go_wp2_with (first | ((with_reducible refine gate_callee (f := 30) rfl ?_); refine goesL_ (some 26) rfl rfl Try.func30 (by kernel_rfl) rfl #[.agg #[.int .i64 x260000_1, .int .i64 x260001_1, .int .i64 x260002_1, .int .i64 x260003_1, .int .i64 x260004_1, .int .i64 x260005_1], .int .i64 6, .int .i64 x260005_1, .int .i64 0] rfl (by (try simp only [List.map_toArray, List.map_cons, List.map_nil]); first | done | rfl | (simp only [List.length_drop, List.length_take]; rfl)) ?_; (with_reducible refine (watchmanref06_turn.calls kj10 x260000_1 x260001_1 x260002_1 x260003_1 x260004_1 x260005_1 6 x260005_1 0 t262 t263 t264 t265 t266 t267 _ A18.out).mono ?_); rintro e w21 ⟨rfl, hb⟩; refine ⟨_, rfl, ?_⟩; have n0_ := Aside0.mk (blk_below (g := gb259) (o := .cells #[.int .i64 x260000_1, .int .i64 x260001_1, .int .i64 x260002_1, .int .i64 x260003_1, .int .i64 x260004_1, .int .i64 x260005_1] 25 (0, 0)) (by (with_reducible repeat (first | refine blk_drewN ?_ _ | refine blk_drew ?_ | refine blk_alloc ?_ _)); exact BK259.out) hb); have n1_ := Aside0.mk (blk_below (g := gb260) (o := .cells #[.int .i64 0, .int .i64 0, .int .i64 0, .int .i64 0, .int .i64 0, .int .i64 0] 25 (0, 0)) (by (with_reducible repeat (first | refine blk_drewN ?_ _ | refine blk_drew ?_ | refine blk_alloc ?_ _)); exact BK260.out) hb); have n2_ := Aside0.mk (below_step (by repeat (first | (with_reducible first | exact HB.out | apply below_alloc | apply pw_below_drewN | apply below_drew1 | refine below_set ?_ GE259.out | refine below_set ?_ GE260.out) | exact HB.out)) hb); clear BK259; clear BK260; clear HB; have BK259 := n0_; have BK260 := n1_; have HB := n2_; clear n0_ n1_ n2_; (try clear hb); (try clear hb2); (try clear hk); (try clear hi); have hcz22_0 : w21.cell? ⟨gb259, 0, none⟩ = some (.int .i64 x260000_1) := (blk_cell BK259.out 0).trans rfl; have hcz22_1 : w21.cell? ⟨gb259, 1, none⟩ = some (.int .i64 x260001_1) := (blk_cell BK259.out 1).trans rfl; have hcz22_2 : w21.cell? ⟨gb259, 2, none⟩ = some (.int .i64 x260002_1) := (blk_cell BK259.out 2).trans rfl; have hcz22_3 : w21.cell? ⟨gb259, 3, none⟩ = some (.int .i64 x260003_1) := (blk_cell BK259.out 3).trans rfl; have hcz22_4 : w21.cell? ⟨gb259, 4, none⟩ = some (.int .i64 x260004_1) := (blk_cell BK259.out 4).trans rfl; have hcz22_5 : w21.cell? ⟨gb259, 5, none⟩ = some (.int .i64 x260005_1) := (blk_cell BK259.out 5).trans rfl; have hfz22_0 := blk_frozen BK259.out 0; have hfz22_1 := blk_frozen BK259.out 1; have hfz22_2 := blk_frozen BK259.out 2; have hfz22_3 := blk_frozen BK259.out 3; have hfz22_4 := blk_frozen BK259.out 4; have hfz22_5 := blk_frozen BK259.out 5))
                go_roundg kj10
                case measure => have := HK1.out; have := HJ10.out; omega
                case rel => exact ⟨(wrap64 (x5_1 + 1)), (t262), (t263), (t264), (t265), (t266), (t267), (by first | rfl | (simp; done) | (simp [*]; done)), H', ⟨by have := HK1.out; have := HJ10.out; omega⟩, ⟨by (with_reducible repeat (first | refine blk_drewN ?_ _ | refine blk_drew ?_ | refine blk_alloc ?_ _)); refine blk_put (cs := #[.int .i64 t262, .int .i64 t263, .int .i64 t264, .int .i64 t265, .int .i64 t266, .int .i64 x260005_1]) ?_ 5 _ rfl; (with_reducible repeat (first | refine blk_drewN ?_ _ | refine blk_drew ?_ | refine blk_alloc ?_ _)); refine blk_put (cs := #[.int .i64 t262, .int .i64 t263, .int .i64 t264, .int .i64 t265, .int .i64 x260004_1, .int .i64 x260005_1]) ?_ 4 _ rfl; (with_reducible repeat (first | refine blk_drewN ?_ _ | refine blk_drew ?_ | refine blk_alloc ?_ _)); refine blk_put (cs := #[.int .i64 t262, .int .i64 t263, .int .i64 t264, .int .i64 x260003_1, .int .i64 x260004_1, .int .i64 x260005_1]) ?_ 3 _ rfl; (with_reducible repeat (first | refine blk_drewN ?_ _ | refine blk_drew ?_ | refine blk_alloc ?_ _)); refine blk_put (cs := #[.int .i64 t262, .int .i64 t263, .int .i64 x260002_1, .int .i64 x260003_1, .int .i64 x260004_1, .int .i64 x260005_1]) ?_ 2 _ rfl; (with_reducible repeat (first | refine blk_drewN ?_ _ | refine blk_drew ?_ | refine blk_alloc ?_ _)); refine blk_put (cs := #[.int .i64 t262, .int .i64 x260001_1, .int .i64 x260002_1, .int .i64 x260003_1, .int .i64 x260004_1, .int .i64 x260005_1]) ?_ 1 _ rfl; (with_reducible repeat (first | refine blk_drewN ?_ _ | refine blk_drew ?_ | refine blk_alloc ?_ _)); refine blk_put (cs := #[.int .i64 x260000_1, .int .i64 x260001_1, .int .i64 x260002_1, .int .i64 x260003_1, .int .i64 x260004_1, .int .i64 x260005_1]) ?_ 0 _ rfl; (with_reducible repeat (first | refine blk_drewN ?_ _ | refine blk_drew ?_ | refine blk_alloc ?_ _)); exact BK259.out⟩, ⟨by (with_reducible repeat (first | refine blk_drewN ?_ _ | refine blk_drew ?_ | refine blk_alloc ?_ _)); refine blk_far ?_ NB260_259.out _; (with_reducible repeat (first | refine blk_drewN ?_ _ | refine blk_drew ?_ | refine blk_alloc ?_ _)); refine blk_far ?_ NB260_259.out _; (with_reducible repeat (first | refine blk_drewN ?_ _ | refine blk_drew ?_ | refine blk_alloc ?_ _)); refine blk_far ?_ NB260_259.out _; (with_reducible repeat (first | refine blk_drewN ?_ _ | refine blk_drew ?_ | refine blk_alloc ?_ _)); refine blk_far ?_ NB260_259.out _; (with_reducible repeat (first | refine blk_drewN ?_ _ | refine blk_drew ?_ | refine blk_alloc ?_ _)); refine blk_far ?_ NB260_259.out _; (with_reducible repeat (first | refine blk_drewN ?_ _ | refine blk_drew ?_ | refine blk_alloc ?_ _)); refine blk_far ?_ NB260_259.out _; (with_reducible repeat (first | refine blk_drewN ?_ _ | refine blk_drew ?_ | refine blk_alloc ?_ _)); exact BK260.out⟩, ⟨by repeat (first | (with_reducible first | exact HB.out | apply below_alloc | apply pw_below_drewN | apply below_drew1 | refine below_set ?_ GE259.out | refine below_set ?_ GE260.out) | exact HB.out)⟩⟩
              · replace c17 := Bool.eq_false_iff.mpr c17
                subst c17
                have H1 : (if x260002_1 = 1 then (if x260005_1 ≤ a1 then ((watchmanref06_turn.f kj10 x260000_1 x260001_1 x260002_1 x260003_1 x260004_1 x260005_1 2 x260005_1 0).bind fun bt268 => (watchmanref06_Pass.l0 kj10 a1 (wrap64 (x5_1 + 1)) bt268.1 bt268.2.1 bt268.2.2.1 bt268.2.2.2.1 bt268.2.2.2.2.1 bt268.2.2.2.2.2)) else (watchmanref06_Pass.l0 kj10 a1 (wrap64 (x5_1 + 1)) x260000_1 x260001_1 x260002_1 x260003_1 x260004_1 x260005_1)) else (watchmanref06_Pass.l0 kj10 a1 (wrap64 (x5_1 + 1)) x260000_1 x260001_1 x260002_1 x260003_1 x260004_1 x260005_1)) = some (r1, r2, r3, r4, r5, r6) := by rw [if_neg (show ¬ (false = true) by decide)] at H; exact H
                clear H
                have H := H1
                clear H1
                by_cases c23 : x260002_1 = 1
                · rw [if_pos c23] at H
                  have c23b0 : (x260002_1 == 1) = true := beq_iff_eq.mpr c23
                  have c23b1 : (x260002_1 != 1) = false := bne_eq_false_iff_eq.mpr c23
                  clear c23
                  by_cases c24 : x260005_1 ≤ a1
                  · rw [if_pos c24] at H
                    have c24b0 : decide (x260005_1 ≤ a1) = true := decide_eq_true c24
                    clear c24
                    replace H := Option.bind_eq_some_iff.mp H
                    obtain ⟨⟨t268, t269, t270, t271, t272, t273⟩, A250, H⟩ := H
                    replace H : (watchmanref06_Pass.l0 kj10 a1 (wrap64 (x5_1 + 1)) t268 t269 t270 t271 t272 t273) = some (r1, r2, r3, r4, r5, r6) := H
                    have A25 := Aside0.mk A250
                    clear A250
                    have H' := Aside0.mk H
                    clear H
                    have hnb26 := NB259_260.out
                    have hnc26 := NB260_259.out
                    have hcz27_0 : wc.cell? ⟨gb259, 0, none⟩ = some (.int .i64 x260000_1) := (blk_cell BK259.out 0).trans rfl
                    have hcz27_1 : wc.cell? ⟨gb259, 1, none⟩ = some (.int .i64 x260001_1) := (blk_cell BK259.out 1).trans rfl
                    have hcz27_2 : wc.cell? ⟨gb259, 2, none⟩ = some (.int .i64 x260002_1) := (blk_cell BK259.out 2).trans rfl
                    have hcz27_3 : wc.cell? ⟨gb259, 3, none⟩ = some (.int .i64 x260003_1) := (blk_cell BK259.out 3).trans rfl
                    have hcz27_4 : wc.cell? ⟨gb259, 4, none⟩ = some (.int .i64 x260004_1) := (blk_cell BK259.out 4).trans rfl
                    have hcz27_5 : wc.cell? ⟨gb259, 5, none⟩ = some (.int .i64 x260005_1) := (blk_cell BK259.out 5).trans rfl
                    have hfz27_0 := blk_frozen BK259.out 0
                    have hfz27_1 := blk_frozen BK259.out 1
                    have hfz27_2 := blk_frozen BK259.out 2
                    have hfz27_3 := blk_frozen BK259.out 3
                    have hfz27_4 := blk_frozen BK259.out 4
                    have hfz27_5 := blk_frozen BK259.out 5
                    go_wp2_with (first | ((with_reducible refine gate_callee (f := 30) rfl ?_); refine goesL_ (some 39) rfl rfl Try.func30 (by kernel_rfl) rfl #[.agg #[.int .i64 x260000_1, .int .i64 x260001_1, .int .i64 x260002_1, .int .i64 x260003_1, .int .i64 x260004_1, .int .i64 x260005_1], .int .i64 2, .int .i64 x260005_1, .int .i64 0] rfl (by (try simp only [List.map_toArray, List.map_cons, List.map_nil]); first | done | rfl | (simp only [List.length_drop, List.length_take]; rfl)) ?_; (with_reducible refine (watchmanref06_turn.calls kj10 x260000_1 x260001_1 x260002_1 x260003_1 x260004_1 x260005_1 2 x260005_1 0 t268 t269 t270 t271 t272 t273 _ A25.out).mono ?_); rintro e w28 ⟨rfl, hb⟩; refine ⟨_, rfl, ?_⟩; have n0_ := Aside0.mk (blk_below (g := gb259) (o := .cells #[.int .i64 x260000_1, .int .i64 x260001_1, .int .i64 x260002_1, .int .i64 x260003_1, .int .i64 x260004_1, .int .i64 x260005_1] 25 (0, 0)) (by (with_reducible repeat (first | refine blk_drewN ?_ _ | refine blk_drew ?_ | refine blk_alloc ?_ _)); exact BK259.out) hb); have n1_ := Aside0.mk (blk_below (g := gb260) (o := .cells #[.int .i64 0, .int .i64 0, .int .i64 0, .int .i64 0, .int .i64 0, .int .i64 0] 25 (0, 0)) (by (with_reducible repeat (first | refine blk_drewN ?_ _ | refine blk_drew ?_ | refine blk_alloc ?_ _)); exact BK260.out) hb); have n2_ := Aside0.mk (below_step (by repeat (first | (with_reducible first | exact HB.out | apply below_alloc | apply pw_below_drewN | apply below_drew1 | refine below_set ?_ GE259.out | refine below_set ?_ GE260.out) | exact HB.out)) hb); clear BK259; clear BK260; clear HB; have BK259 := n0_; have BK260 := n1_; have HB := n2_; clear n0_ n1_ n2_; (try clear hb); (try clear hb2); (try clear hk); (try clear hi); have hcz29_0 : w28.cell? ⟨gb259, 0, none⟩ = some (.int .i64 x260000_1) := (blk_cell BK259.out 0).trans rfl; have hcz29_1 : w28.cell? ⟨gb259, 1, none⟩ = some (.int .i64 x260001_1) := (blk_cell BK259.out 1).trans rfl; have hcz29_2 : w28.cell? ⟨gb259, 2, none⟩ = some (.int .i64 x260002_1) := (blk_cell BK259.out 2).trans rfl; have hcz29_3 : w28.cell? ⟨gb259, 3, none⟩ = some (.int .i64 x260003_1) := (blk_cell BK259.out 3).trans rfl; have hcz29_4 : w28.cell? ⟨gb259, 4, none⟩ = some (.int .i64 x260004_1) := (blk_cell BK259.out 4).trans rfl; have hcz29_5 : w28.cell? ⟨gb259, 5, none⟩ = some (.int .i64 x260005_1) := (blk_cell BK259.out 5).trans rfl; have hfz29_0 := blk_frozen BK259.out 0; have hfz29_1 := blk_frozen BK259.out 1; have hfz29_2 := blk_frozen BK259.out 2; have hfz29_3 := blk_frozen BK259.out 3; have hfz29_4 := blk_frozen BK259.out 4; have hfz29_5 := blk_frozen BK259.out 5))
                    go_roundg kj10
                    case measure => have := HK1.out; have := HJ10.out; omega
                    case rel => exact ⟨(wrap64 (x5_1 + 1)), (t268), (t269), (t270), (t271), (t272), (t273), (by first | rfl | (simp; done) | (simp [*]; done)), H', ⟨by have := HK1.out; have := HJ10.out; omega⟩, ⟨by (with_reducible repeat (first | refine blk_drewN ?_ _ | refine blk_drew ?_ | refine blk_alloc ?_ _)); refine blk_put (cs := #[.int .i64 t268, .int .i64 t269, .int .i64 t270, .int .i64 t271, .int .i64 t272, .int .i64 x260005_1]) ?_ 5 _ rfl; (with_reducible repeat (first | refine blk_drewN ?_ _ | refine blk_drew ?_ | refine blk_alloc ?_ _)); refine blk_put (cs := #[.int .i64 t268, .int .i64 t269, .int .i64 t270, .int .i64 t271, .int .i64 x260004_1, .int .i64 x260005_1]) ?_ 4 _ rfl; (with_reducible repeat (first | refine blk_drewN ?_ _ | refine blk_drew ?_ | refine blk_alloc ?_ _)); refine blk_put (cs := #[.int .i64 t268, .int .i64 t269, .int .i64 t270, .int .i64 x260003_1, .int .i64 x260004_1, .int .i64 x260005_1]) ?_ 3 _ rfl; (with_reducible repeat (first | refine blk_drewN ?_ _ | refine blk_drew ?_ | refine blk_alloc ?_ _)); refine blk_put (cs := #[.int .i64 t268, .int .i64 t269, .int .i64 x260002_1, .int .i64 x260003_1, .int .i64 x260004_1, .int .i64 x260005_1]) ?_ 2 _ rfl; (with_reducible repeat (first | refine blk_drewN ?_ _ | refine blk_drew ?_ | refine blk_alloc ?_ _)); refine blk_put (cs := #[.int .i64 t268, .int .i64 x260001_1, .int .i64 x260002_1, .int .i64 x260003_1, .int .i64 x260004_1, .int .i64 x260005_1]) ?_ 1 _ rfl; (with_reducible repeat (first | refine blk_drewN ?_ _ | refine blk_drew ?_ | refine blk_alloc ?_ _)); refine blk_put (cs := #[.int .i64 x260000_1, .int .i64 x260001_1, .int .i64 x260002_1, .int .i64 x260003_1, .int .i64 x260004_1, .int .i64 x260005_1]) ?_ 0 _ rfl; (with_reducible repeat (first | refine blk_drewN ?_ _ | refine blk_drew ?_ | refine blk_alloc ?_ _)); exact BK259.out⟩, ⟨by (with_reducible repeat (first | refine blk_drewN ?_ _ | refine blk_drew ?_ | refine blk_alloc ?_ _)); refine blk_far ?_ NB260_259.out _; (with_reducible repeat (first | refine blk_drewN ?_ _ | refine blk_drew ?_ | refine blk_alloc ?_ _)); refine blk_far ?_ NB260_259.out _; (with_reducible repeat (first | refine blk_drewN ?_ _ | refine blk_drew ?_ | refine blk_alloc ?_ _)); refine blk_far ?_ NB260_259.out _; (with_reducible repeat (first | refine blk_drewN ?_ _ | refine blk_drew ?_ | refine blk_alloc ?_ _)); refine blk_far ?_ NB260_259.out _; (with_reducible repeat (first | refine blk_drewN ?_ _ | refine blk_drew ?_ | refine blk_alloc ?_ _)); refine blk_far ?_ NB260_259.out _; (with_reducible repeat (first | refine blk_drewN ?_ _ | refine blk_drew ?_ | refine blk_alloc ?_ _)); refine blk_far ?_ NB260_259.out _; (with_reducible repeat (first | refine blk_drewN ?_ _ | refine blk_drew ?_ | refine blk_alloc ?_ _)); exact BK260.out⟩, ⟨by repeat (first | (with_reducible first | exact HB.out | apply below_alloc | apply pw_below_drewN | apply below_drew1 | refine below_set ?_ GE259.out | refine below_set ?_ GE260.out) | exact HB.out)⟩⟩
                  · rw [if_neg c24] at H
                    have c24b0 : decide (x260005_1 ≤ a1) = false := decide_eq_false c24
                    clear c24
                    have H' := Aside0.mk H
                    clear H
                    have hnb30 := NB259_260.out
                    have hnc30 := NB260_259.out
                    have hcz31_0 : wc.cell? ⟨gb259, 0, none⟩ = some (.int .i64 x260000_1) := (blk_cell BK259.out 0).trans rfl
                    have hcz31_1 : wc.cell? ⟨gb259, 1, none⟩ = some (.int .i64 x260001_1) := (blk_cell BK259.out 1).trans rfl
                    have hcz31_2 : wc.cell? ⟨gb259, 2, none⟩ = some (.int .i64 x260002_1) := (blk_cell BK259.out 2).trans rfl
                    have hcz31_3 : wc.cell? ⟨gb259, 3, none⟩ = some (.int .i64 x260003_1) := (blk_cell BK259.out 3).trans rfl
                    have hcz31_4 : wc.cell? ⟨gb259, 4, none⟩ = some (.int .i64 x260004_1) := (blk_cell BK259.out 4).trans rfl
                    have hcz31_5 : wc.cell? ⟨gb259, 5, none⟩ = some (.int .i64 x260005_1) := (blk_cell BK259.out 5).trans rfl
                    have hfz31_0 := blk_frozen BK259.out 0
                    have hfz31_1 := blk_frozen BK259.out 1
                    have hfz31_2 := blk_frozen BK259.out 2
                    have hfz31_3 := blk_frozen BK259.out 3
                    have hfz31_4 := blk_frozen BK259.out 4
                    have hfz31_5 := blk_frozen BK259.out 5
                    go_wp2
                    go_roundg kj10
                    case measure => have := HK1.out; have := HJ10.out; omega
                    case rel => exact ⟨(wrap64 (x5_1 + 1)), (x260000_1), (x260001_1), (x260002_1), (x260003_1), (x260004_1), (x260005_1), (by first | rfl | (simp; done) | (simp [*]; done)), H', ⟨by have := HK1.out; have := HJ10.out; omega⟩, ⟨by (with_reducible repeat (first | refine blk_drewN ?_ _ | refine blk_drew ?_ | refine blk_alloc ?_ _)); exact BK259.out⟩, ⟨by (with_reducible repeat (first | refine blk_drewN ?_ _ | refine blk_drew ?_ | refine blk_alloc ?_ _)); exact BK260.out⟩, ⟨by repeat (first | (with_reducible first | exact HB.out | apply below_alloc | apply pw_below_drewN | apply below_drew1 | refine below_set ?_ GE259.out | refine below_set ?_ GE260.out) | exact HB.out)⟩⟩
                · rw [if_neg c23] at H
                  have c23b0 : (x260002_1 == 1) = false := beq_eq_false_iff_ne.mpr c23
                  have c23b1 : (x260002_1 != 1) = true := bne_iff_ne.mpr c23
                  have H' := Aside0.mk H
                  clear H
                  have hnb32 := NB259_260.out
                  have hnc32 := NB260_259.out
                  have hcz33_0 : wc.cell? ⟨gb259, 0, none⟩ = some (.int .i64 x260000_1) := (blk_cell BK259.out 0).trans rfl
                  have hcz33_1 : wc.cell? ⟨gb259, 1, none⟩ = some (.int .i64 x260001_1) := (blk_cell BK259.out 1).trans rfl
                  have hcz33_2 : wc.cell? ⟨gb259, 2, none⟩ = some (.int .i64 x260002_1) := (blk_cell BK259.out 2).trans rfl
                  have hcz33_3 : wc.cell? ⟨gb259, 3, none⟩ = some (.int .i64 x260003_1) := (blk_cell BK259.out 3).trans rfl
                  have hcz33_4 : wc.cell? ⟨gb259, 4, none⟩ = some (.int .i64 x260004_1) := (blk_cell BK259.out 4).trans rfl
                  have hcz33_5 : wc.cell? ⟨gb259, 5, none⟩ = some (.int .i64 x260005_1) := (blk_cell BK259.out 5).trans rfl
                  have hfz33_0 := blk_frozen BK259.out 0
                  have hfz33_1 := blk_frozen BK259.out 1
                  have hfz33_2 := blk_frozen BK259.out 2
                  have hfz33_3 := blk_frozen BK259.out 3
                  have hfz33_4 := blk_frozen BK259.out 4
                  have hfz33_5 := blk_frozen BK259.out 5
                  go_wp2
                  go_roundg kj10
                  case measure => have := HK1.out; have := HJ10.out; omega
                  case rel => exact ⟨(wrap64 (x5_1 + 1)), (x260000_1), (x260001_1), (x260002_1), (x260003_1), (x260004_1), (x260005_1), (by first | rfl | (simp; done) | (simp [*]; done)), H', ⟨by have := HK1.out; have := HJ10.out; omega⟩, ⟨by (with_reducible repeat (first | refine blk_drewN ?_ _ | refine blk_drew ?_ | refine blk_alloc ?_ _)); exact BK259.out⟩, ⟨by (with_reducible repeat (first | refine blk_drewN ?_ _ | refine blk_drew ?_ | refine blk_alloc ?_ _)); exact BK260.out⟩, ⟨by repeat (first | (with_reducible first | exact HB.out | apply below_alloc | apply pw_below_drewN | apply below_drew1 | refine below_set ?_ GE259.out | refine below_set ?_ GE260.out) | exact HB.out)⟩⟩
        · rw [if_neg c10] at H
          have c10b0 : decide (x5_1 < 3) = false := decide_eq_false c10
          clear c10
          simp only [Option.some.injEq, Prod.mk.injEq] at H
          obtain ⟨rfl, rfl, rfl, rfl, rfl, rfl⟩ := H
          have hnb34 := NB259_260.out
          have hnc34 := NB260_259.out
          have hcz35_0 : wr.cell? ⟨gb259, 0, none⟩ = some (.int .i64 x260000_1) := (blk_cell BK259.out 0).trans rfl
          have hcz35_1 : wr.cell? ⟨gb259, 1, none⟩ = some (.int .i64 x260001_1) := (blk_cell BK259.out 1).trans rfl
          have hcz35_2 : wr.cell? ⟨gb259, 2, none⟩ = some (.int .i64 x260002_1) := (blk_cell BK259.out 2).trans rfl
          have hcz35_3 : wr.cell? ⟨gb259, 3, none⟩ = some (.int .i64 x260003_1) := (blk_cell BK259.out 3).trans rfl
          have hcz35_4 : wr.cell? ⟨gb259, 4, none⟩ = some (.int .i64 x260004_1) := (blk_cell BK259.out 4).trans rfl
          have hcz35_5 : wr.cell? ⟨gb259, 5, none⟩ = some (.int .i64 x260005_1) := (blk_cell BK259.out 5).trans rfl
          have hfz35_0 := blk_frozen BK259.out 0
          have hfz35_1 := blk_frozen BK259.out 1
          have hfz35_2 := blk_frozen BK259.out 2
          have hfz35_3 := blk_frozen BK259.out 3
          have hfz35_4 := blk_frozen BK259.out 4
          have hfz35_5 := blk_frozen BK259.out 5
          have hcz36_0 : wr.cell? ⟨gb260, 0, none⟩ = some (.int .i64 0) := (blk_cell BK260.out 0).trans rfl
          have hcz36_1 : wr.cell? ⟨gb260, 1, none⟩ = some (.int .i64 0) := (blk_cell BK260.out 1).trans rfl
          have hcz36_2 : wr.cell? ⟨gb260, 2, none⟩ = some (.int .i64 0) := (blk_cell BK260.out 2).trans rfl
          have hcz36_3 : wr.cell? ⟨gb260, 3, none⟩ = some (.int .i64 0) := (blk_cell BK260.out 3).trans rfl
          have hcz36_4 : wr.cell? ⟨gb260, 4, none⟩ = some (.int .i64 0) := (blk_cell BK260.out 4).trans rfl
          have hcz36_5 : wr.cell? ⟨gb260, 5, none⟩ = some (.int .i64 0) := (blk_cell BK260.out 5).trans rfl
          have hfz36_0 := blk_frozen BK260.out 0
          have hfz36_1 := blk_frozen BK260.out 1
          have hfz36_2 := blk_frozen BK260.out 2
          have hfz36_3 := blk_frozen BK260.out 3
          have hfz36_4 := blk_frozen BK260.out 4
          have hfz36_5 := blk_frozen BK260.out 5
          go_wp2
          refine bodyPost_ret (results_cell_row rfl _ _ gb260 25 #[.int .i64 x260000_1, .int .i64 x260001_1, .int .i64 x260002_1, .int .i64 x260003_1, .int .i64 x260004_1, .int .i64 x260005_1] (0, 0) _ rfl (by (with_reducible repeat (first | refine blk_drewN ?_ _ | refine blk_drew ?_ | refine blk_alloc ?_ _)); refine blk_put (cs := #[.int .i64 x260000_1, .int .i64 x260001_1, .int .i64 x260002_1, .int .i64 x260003_1, .int .i64 x260004_1, .int .i64 0]) ?_ 5 _ rfl; (with_reducible repeat (first | refine blk_drewN ?_ _ | refine blk_drew ?_ | refine blk_alloc ?_ _)); refine blk_put (cs := #[.int .i64 x260000_1, .int .i64 x260001_1, .int .i64 x260002_1, .int .i64 x260003_1, .int .i64 0, .int .i64 0]) ?_ 4 _ rfl; (with_reducible repeat (first | refine blk_drewN ?_ _ | refine blk_drew ?_ | refine blk_alloc ?_ _)); refine blk_put (cs := #[.int .i64 x260000_1, .int .i64 x260001_1, .int .i64 x260002_1, .int .i64 0, .int .i64 0, .int .i64 0]) ?_ 3 _ rfl; (with_reducible repeat (first | refine blk_drewN ?_ _ | refine blk_drew ?_ | refine blk_alloc ?_ _)); refine blk_put (cs := #[.int .i64 x260000_1, .int .i64 x260001_1, .int .i64 0, .int .i64 0, .int .i64 0, .int .i64 0]) ?_ 2 _ rfl; (with_reducible repeat (first | refine blk_drewN ?_ _ | refine blk_drew ?_ | refine blk_alloc ?_ _)); refine blk_put (cs := #[.int .i64 x260000_1, .int .i64 0, .int .i64 0, .int .i64 0, .int .i64 0, .int .i64 0]) ?_ 1 _ rfl; (with_reducible repeat (first | refine blk_drewN ?_ _ | refine blk_drew ?_ | refine blk_alloc ?_ _)); refine blk_put (cs := #[.int .i64 0, .int .i64 0, .int .i64 0, .int .i64 0, .int .i64 0, .int .i64 0]) ?_ 0 _ rfl; (with_reducible repeat (first | refine blk_drewN ?_ _ | refine blk_drew ?_ | refine blk_alloc ?_ _)); exact BK260.out) Try.underlying25 rfl (by kernel_rfl)) rfl ?_
          exact ⟨by first | rfl | (simp [errW_none, errW_some] <;> rfl) | (simp [*, errW_none, errW_some] <;> rfl), by repeat (first | (with_reducible first | exact HB.out | apply below_alloc | apply pw_below_drewN | apply below_drew1 | refine below_set ?_ GE259.out | refine below_set ?_ GE260.out) | exact HB.out)⟩
  · replace c4 := Bool.eq_false_iff.mpr c4
    subst c4
    have H1 : (some (a0_0, a0_1, a0_2, a0_3, a0_4, a0_5)) = some (r1, r2, r3, r4, r5, r6) := by rw [if_neg (show ¬ (false = true) by decide)] at H; exact H
    clear H
    have H := H1
    clear H1
    simp only [Option.some.injEq, Prod.mk.injEq] at H
    obtain ⟨rfl, rfl, rfl, rfl, rfl, rfl⟩ := H
    go_enter Try.func13, Try.ntmps13
    go_wp2_with (first | ((with_reducible refine gate_dst (N := 2) rfl ?_); refine box_event ?hg (N := 2) ?hd (cs := #[.int .i64 a0_0, .int .i64 a0_1, .int .i64 a0_2, .int .i64 a0_3, .int .i64 a0_4, .int .i64 a0_5]) (t := 25) ?hr ?_; (case hd => rfl); (case hg => rfl); (case hr => first | (go_simp; done) | (go_simp; rfl)); intro gb259 hg w37 hbox hb; have n0_ := Aside0.mk (below_step (by repeat (first | (with_reducible first | exact HB.out | apply below_alloc | apply pw_below_drewN | apply below_drew1) | exact HB.out)) hb); have n1_ := Aside0.mk (hbox); have n2_ := Aside0.mk ((by rw [hg]; exact (below_size (by repeat (first | (with_reducible first | exact HB.out | apply below_alloc | apply pw_below_drewN | apply below_drew1) | exact HB.out))) : w.heap.size ≤ gb259)); have n3_ := Aside0.mk ((by rw [hg]; exact (below_size (by repeat (first | (with_reducible first | exact HB.out | apply below_alloc | apply pw_below_drewN | apply below_drew1) | exact HB.out))) : w.heap.size ≤ gb259)); clear HB; have HB := n0_; have BK259 := n1_; have GW259 := n2_; have GE259 := n3_; clear n0_ n1_ n2_ n3_; clear hb hbox hg) | ((with_reducible refine gate_dst (N := 4) rfl ?_); refine box_event ?hg (N := 4) ?hd (cs := #[.int .i64 0, .int .i64 0, .int .i64 0, .int .i64 0, .int .i64 0, .int .i64 0]) (t := 25) ?hr ?_; (case hd => rfl); (case hg => rfl); (case hr => first | (go_simp; done) | (go_simp; rfl)); intro gb260 hg w38 hbox hb; have n0_ := Aside0.mk (blk_below (g := gb259) (o := .cells #[.int .i64 a0_0, .int .i64 a0_1, .int .i64 a0_2, .int .i64 a0_3, .int .i64 a0_4, .int .i64 a0_5] 25 (0, 0)) (by (with_reducible repeat (first | refine blk_drewN ?_ _ | refine blk_drew ?_ | refine blk_alloc ?_ _)); exact BK259.out) hb); have n1_ := Aside0.mk (below_step (by repeat (first | (with_reducible first | exact HB.out | apply below_alloc | apply pw_below_drewN | apply below_drew1 | refine below_set ?_ GE259.out) | exact HB.out)) hb); have n2_ := Aside0.mk (hbox); have n3_ := Aside0.mk ((by rw [hg]; exact (below_size (by repeat (first | (with_reducible first | exact HB.out | apply below_alloc | apply pw_below_drewN | apply below_drew1 | refine below_set ?_ GE259.out) | exact HB.out))) : w.heap.size ≤ gb260)); have n4_ := Aside0.mk ((by rw [hg]; exact (below_size (by repeat (first | (with_reducible first | exact HB.out | apply below_alloc | apply pw_below_drewN | apply below_drew1 | refine below_set ?_ GE259.out) | exact HB.out))) : w.heap.size ≤ gb260)); have n5_ := Aside0.mk ((by rw [hg]; exact Nat.ne_of_lt (blk_lt (g := gb259) (o := .cells #[.int .i64 a0_0, .int .i64 a0_1, .int .i64 a0_2, .int .i64 a0_3, .int .i64 a0_4, .int .i64 a0_5] 25 (0, 0)) (by (with_reducible repeat (first | refine blk_drewN ?_ _ | refine blk_drew ?_ | refine blk_alloc ?_ _)); exact BK259.out)) : gb259 ≠ gb260)); have n6_ := Aside0.mk ((by rw [hg]; exact Nat.ne_of_gt (blk_lt (g := gb259) (o := .cells #[.int .i64 a0_0, .int .i64 a0_1, .int .i64 a0_2, .int .i64 a0_3, .int .i64 a0_4, .int .i64 a0_5] 25 (0, 0)) (by (with_reducible repeat (first | refine blk_drewN ?_ _ | refine blk_drew ?_ | refine blk_alloc ?_ _)); exact BK259.out)) : gb260 ≠ gb259)); clear BK259; clear HB; have BK259 := n0_; have HB := n1_; have BK260 := n2_; have GW260 := n3_; have GE260 := n4_; have NB259_260 := n5_; have NB260_259 := n6_; clear n0_ n1_ n2_ n3_ n4_ n5_ n6_; clear hb hbox hg; have hnb39 := NB259_260.out; have hnc39 := NB260_259.out; have hcz40_0 : w38.cell? ⟨gb259, 0, none⟩ = some (.int .i64 a0_0) := (blk_cell BK259.out 0).trans rfl; have hcz40_1 : w38.cell? ⟨gb259, 1, none⟩ = some (.int .i64 a0_1) := (blk_cell BK259.out 1).trans rfl; have hcz40_2 : w38.cell? ⟨gb259, 2, none⟩ = some (.int .i64 a0_2) := (blk_cell BK259.out 2).trans rfl; have hcz40_3 : w38.cell? ⟨gb259, 3, none⟩ = some (.int .i64 a0_3) := (blk_cell BK259.out 3).trans rfl; have hcz40_4 : w38.cell? ⟨gb259, 4, none⟩ = some (.int .i64 a0_4) := (blk_cell BK259.out 4).trans rfl; have hcz40_5 : w38.cell? ⟨gb259, 5, none⟩ = some (.int .i64 a0_5) := (blk_cell BK259.out 5).trans rfl; have hfz40_0 := blk_frozen BK259.out 0; have hfz40_1 := blk_frozen BK259.out 1; have hfz40_2 := blk_frozen BK259.out 2; have hfz40_3 := blk_frozen BK259.out 3; have hfz40_4 := blk_frozen BK259.out 4; have hfz40_5 := blk_frozen BK259.out 5) | ((with_reducible refine gate_callee (f := 19) rfl ?_); refine goesL_ (some 7) rfl rfl Try.func19 (by kernel_rfl) rfl #[.agg #[.int .i64 a0_0, .int .i64 a0_1, .int .i64 a0_2, .int .i64 a0_3, .int .i64 a0_4, .int .i64 a0_5]] rfl (by (try simp only [List.map_toArray, List.map_cons, List.map_nil]); first | done | rfl | (simp only [List.length_drop, List.length_take]; rfl)) ?_; (with_reducible refine (watchmanref06_Is.calls a0_0 a0_1 a0_2 a0_3 a0_4 a0_5 false _ A3.out).mono ?_); rintro e w41 ⟨rfl, hb⟩; refine ⟨_, rfl, ?_⟩; have n0_ := Aside0.mk (blk_below (g := gb259) (o := .cells #[.int .i64 a0_0, .int .i64 a0_1, .int .i64 a0_2, .int .i64 a0_3, .int .i64 a0_4, .int .i64 a0_5] 25 (0, 0)) (by (with_reducible repeat (first | refine blk_drewN ?_ _ | refine blk_drew ?_ | refine blk_alloc ?_ _)); exact BK259.out) hb); have n1_ := Aside0.mk (blk_below (g := gb260) (o := .cells #[.int .i64 0, .int .i64 0, .int .i64 0, .int .i64 0, .int .i64 0, .int .i64 0] 25 (0, 0)) (by (with_reducible repeat (first | refine blk_drewN ?_ _ | refine blk_drew ?_ | refine blk_alloc ?_ _)); exact BK260.out) hb); have n2_ := Aside0.mk (below_step (by repeat (first | (with_reducible first | exact HB.out | apply below_alloc | apply pw_below_drewN | apply below_drew1 | refine below_set ?_ GE259.out | refine below_set ?_ GE260.out) | exact HB.out)) hb); clear BK259; clear BK260; clear HB; have BK259 := n0_; have BK260 := n1_; have HB := n2_; clear n0_ n1_ n2_; (try clear hb); (try clear hb2); (try clear hk); (try clear hi); have hcz42_0 : w41.cell? ⟨gb259, 0, none⟩ = some (.int .i64 a0_0) := (blk_cell BK259.out 0).trans rfl; have hcz42_1 : w41.cell? ⟨gb259, 1, none⟩ = some (.int .i64 a0_1) := (blk_cell BK259.out 1).trans rfl; have hcz42_2 : w41.cell? ⟨gb259, 2, none⟩ = some (.int .i64 a0_2) := (blk_cell BK259.out 2).trans rfl; have hcz42_3 : w41.cell? ⟨gb259, 3, none⟩ = some (.int .i64 a0_3) := (blk_cell BK259.out 3).trans rfl; have hcz42_4 : w41.cell? ⟨gb259, 4, none⟩ = some (.int .i64 a0_4) := (blk_cell BK259.out 4).trans rfl; have hcz42_5 : w41.cell? ⟨gb259, 5, none⟩ = some (.int .i64 a0_5) := (blk_cell BK259.out 5).trans rfl; have hfz42_0 := blk_frozen BK259.out 0; have hfz42_1 := blk_frozen BK259.out 1; have hfz42_2 := blk_frozen BK259.out 2; have hfz42_3 := blk_frozen BK259.out 3; have hfz42_4 := blk_frozen BK259.out 4; have hfz42_5 := blk_frozen BK259.out 5; have hcz43_0 : w41.cell? ⟨gb260, 0, none⟩ = some (.int .i64 0) := (blk_cell BK260.out 0).trans rfl; have hcz43_1 : w41.cell? ⟨gb260, 1, none⟩ = some (.int .i64 0) := (blk_cell BK260.out 1).trans rfl; have hcz43_2 : w41.cell? ⟨gb260, 2, none⟩ = some (.int .i64 0) := (blk_cell BK260.out 2).trans rfl; have hcz43_3 : w41.cell? ⟨gb260, 3, none⟩ = some (.int .i64 0) := (blk_cell BK260.out 3).trans rfl; have hcz43_4 : w41.cell? ⟨gb260, 4, none⟩ = some (.int .i64 0) := (blk_cell BK260.out 4).trans rfl; have hcz43_5 : w41.cell? ⟨gb260, 5, none⟩ = some (.int .i64 0) := (blk_cell BK260.out 5).trans rfl; have hfz43_0 := blk_frozen BK260.out 0; have hfz43_1 := blk_frozen BK260.out 1; have hfz43_2 := blk_frozen BK260.out 2; have hfz43_3 := blk_frozen BK260.out 3; have hfz43_4 := blk_frozen BK260.out 4; have hfz43_5 := blk_frozen BK260.out 5))
    refine bodyPost_ret (results_cell_row rfl _ _ gb260 25 #[.int .i64 a0_0, .int .i64 a0_1, .int .i64 a0_2, .int .i64 a0_3, .int .i64 a0_4, .int .i64 a0_5] (0, 0) _ rfl (by (with_reducible repeat (first | refine blk_drewN ?_ _ | refine blk_drew ?_ | refine blk_alloc ?_ _)); refine blk_put (cs := #[.int .i64 a0_0, .int .i64 a0_1, .int .i64 a0_2, .int .i64 a0_3, .int .i64 a0_4, .int .i64 0]) ?_ 5 _ rfl; (with_reducible repeat (first | refine blk_drewN ?_ _ | refine blk_drew ?_ | refine blk_alloc ?_ _)); refine blk_put (cs := #[.int .i64 a0_0, .int .i64 a0_1, .int .i64 a0_2, .int .i64 a0_3, .int .i64 0, .int .i64 0]) ?_ 4 _ rfl; (with_reducible repeat (first | refine blk_drewN ?_ _ | refine blk_drew ?_ | refine blk_alloc ?_ _)); refine blk_put (cs := #[.int .i64 a0_0, .int .i64 a0_1, .int .i64 a0_2, .int .i64 0, .int .i64 0, .int .i64 0]) ?_ 3 _ rfl; (with_reducible repeat (first | refine blk_drewN ?_ _ | refine blk_drew ?_ | refine blk_alloc ?_ _)); refine blk_put (cs := #[.int .i64 a0_0, .int .i64 a0_1, .int .i64 0, .int .i64 0, .int .i64 0, .int .i64 0]) ?_ 2 _ rfl; (with_reducible repeat (first | refine blk_drewN ?_ _ | refine blk_drew ?_ | refine blk_alloc ?_ _)); refine blk_put (cs := #[.int .i64 a0_0, .int .i64 0, .int .i64 0, .int .i64 0, .int .i64 0, .int .i64 0]) ?_ 1 _ rfl; (with_reducible repeat (first | refine blk_drewN ?_ _ | refine blk_drew ?_ | refine blk_alloc ?_ _)); refine blk_put (cs := #[.int .i64 0, .int .i64 0, .int .i64 0, .int .i64 0, .int .i64 0, .int .i64 0]) ?_ 0 _ rfl; (with_reducible repeat (first | refine blk_drewN ?_ _ | refine blk_drew ?_ | refine blk_alloc ?_ _)); exact BK260.out) Try.underlying25 rfl (by kernel_rfl)) rfl ?_
    exact ⟨by first | rfl | (simp [errW_none, errW_some] <;> rfl) | (simp [*, errW_none, errW_some] <;> rfl), by repeat (first | (with_reducible first | exact HB.out | apply below_alloc | apply pw_below_drewN | apply below_drew1 | refine below_set ?_ GE259.out | refine below_set ?_ GE260.out) | exact HB.out)⟩

end Go.Proofs.Ytlleifklioamlaa.F
