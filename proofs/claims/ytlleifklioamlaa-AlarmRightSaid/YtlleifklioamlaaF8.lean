-- Written by a program of this session (xprint.py), out of the translation and of contracts proved by hand.
import Derived.Test.YtlleifklioamlaaF0
import Derived.Test.YtlleifklioamlaaF5
import Derived.Test.YtlleifklioamlaaF6
import Derived.Test.YtlleifklioamlaaF7
namespace Go.Proofs.Ytlleifklioamlaa.F
open Go.RowKit Go.Proofs.YtlleifklioamlaaV.PrintWords Go.Proofs.YtlleifklioamlaaV.PrintLast Go.Proofs.YtlleifklioamlaaV.PrintMore
attribute [local go_sem] max2_int min2_int max_two min_two max_three min_three max_four min_four   -- for this text's walks alone
set_option linter.unusedVariables false
set_option linter.unusedSimpArgs false

/-! ### watchmanref06_Do: function 10 -/
def watchmanref06_Do.j0 : Nat → Int → Int → Int → Bool → Int → Int → Int → Int → Int → Int → Option (Int × Int × Int × Int × Int × Int × Int)
  | 0, _, _, _, _, _, _, _, _, _, _ => none
  | k + 1, x1, x2, x3, x47, x150000, x150001, x150002, x150003, x150004, x150005 => if x47 = true then (some (0, 0, 0, 0, 0, 0, 1)) else (if x2 < x150004 then (some (0, 0, 0, 0, 0, 0, 62)) else ((watchmanref05_Next.f k x150002 x1).bind fun bt153 => (if bt153.2 = true then (if x1 = 2 then (if x2 < x150005 then (some (0, 0, 0, 0, 0, 0, 61)) else ((watchmanref06_turn.f k x150000 x150001 x150002 x150003 x150004 x150005 x1 x2 x3).bind fun bt155 => (some (bt155.1, bt155.2.1, bt155.2.2.1, bt155.2.2.2.1, bt155.2.2.2.2.1, bt155.2.2.2.2.2, 0)))) else (if x1 = 6 then (if x2 < x150005 then (some (0, 0, 0, 0, 0, 0, 61)) else ((watchmanref06_turn.f k x150000 x150001 x150002 x150003 x150004 x150005 x1 x2 x3).bind fun bt161 => (some (bt161.1, bt161.2.1, bt161.2.2.1, bt161.2.2.2.1, bt161.2.2.2.2.1, bt161.2.2.2.2.2, 0)))) else ((watchmanref06_turn.f k x150000 x150001 x150002 x150003 x150004 x150005 x1 x2 x3).bind fun bt167 => (some (bt167.1, bt167.2.1, bt167.2.2.1, bt167.2.2.2.1, bt167.2.2.2.2.1, bt167.2.2.2.2.2, 0))))) else (some (0, 0, 0, 0, 0, 0, 60)))))
def watchmanref06_Do.f (k : Nat) (a0_0 : Int) (a0_1 : Int) (a0_2 : Int) (a0_3 : Int) (a0_4 : Int) (a0_5 : Int) (a1 : Int) (a2 : Int) (a3 : Int) : Option (Int × Int × Int × Int × Int × Int × Int) := (watchmanref06_Is.f a0_0 a0_1 a0_2 a0_3 a0_4 a0_5).bind fun t151 => (if t151 = true then ((watchmanref06_time.f a2).bind fun t152 => (if t152 = true then (if a1 = 2 then (if a1 = 4 then (none) else (watchmanref06_Do.j0 k a1 a2 a3 false a0_0 a0_1 a0_2 a0_3 a0_4 a0_5)) else (if a1 = 3 then (if a1 = 4 then (none) else (watchmanref06_Do.j0 k a1 a2 a3 false a0_0 a0_1 a0_2 a0_3 a0_4 a0_5)) else (if a1 = 4 then (if a3 < 1 then (watchmanref06_Do.j0 k a1 a2 a3 true a0_0 a0_1 a0_2 a0_3 a0_4 a0_5) else (watchmanref06_Do.j0 k a1 a2 a3 (decide (a3 > 1000)) a0_0 a0_1 a0_2 a0_3 a0_4 a0_5)) else (if a1 = 6 then (watchmanref06_Do.j0 k a1 a2 a3 false a0_0 a0_1 a0_2 a0_3 a0_4 a0_5) else (watchmanref06_Do.j0 k a1 a2 a3 true a0_0 a0_1 a0_2 a0_3 a0_4 a0_5))))) else (watchmanref06_Do.j0 k a1 a2 a3 true a0_0 a0_1 a0_2 a0_3 a0_4 a0_5))) else (watchmanref06_Do.j0 k a1 a2 a3 true a0_0 a0_1 a0_2 a0_3 a0_4 a0_5))
theorem watchmanref06_Do.mono_l : ∀ k, (∀ y0 y1 y2 y3 y4 y5 y6 y7 y8 y9, LeO (watchmanref06_Do.j0 k y0 y1 y2 y3 y4 y5 y6 y7 y8 y9) (watchmanref06_Do.j0 (k + 1) y0 y1 y2 y3 y4 y5 y6 y7 y8 y9))
  | 0 => fun _ _ _ _ _ _ _ _ _ _ r h => by simp [watchmanref06_Do.j0] at h
  | k + 1 => by
    have ih0 := watchmanref06_Do.mono_l k
    · intro y0 y1 y2 y3 y4 y5 y6 y7 y8 y9
      unfold watchmanref06_Do.j0
      repeat' first
      | (with_reducible exact ih0 _ _ _ _ _ _ _ _ _ _)
      | (with_reducible exact watchmanref05_Next.mono _ _ _)
      | (with_reducible exact watchmanref06_turn.mono _ _ _ _ _ _ _ _ _ _)
      | (with_reducible exact LeO.refl _)
      | (with_reducible exact LeO.none _)
      | (with_reducible refine LeO.ite ?_ ?_)
      | (with_reducible refine LeO.bind ?_ (fun _ => ?_))
      | exact ih0 _ _ _ _ _ _ _ _ _ _
      | exact watchmanref05_Next.mono _ _ _
      | exact watchmanref06_turn.mono _ _ _ _ _ _ _ _ _ _
      | exact LeO.none _
      | refine LeO.ite ?_ ?_
      | refine LeO.bind ?_ (fun _ => ?_)
theorem watchmanref06_Do.mono : ∀ a0 a1 a2 a3 a4 a5 a6 a7 a8 k, LeO (watchmanref06_Do.f k a0 a1 a2 a3 a4 a5 a6 a7 a8) (watchmanref06_Do.f (k + 1) a0 a1 a2 a3 a4 a5 a6 a7 a8) := by
  intro a0 a1 a2 a3 a4 a5 a6 a7 a8 k
  have ih0 := watchmanref06_Do.mono_l k
  unfold watchmanref06_Do.f
  repeat' first
      | (with_reducible exact ih0 _ _ _ _ _ _ _ _ _ _)
      | (with_reducible exact watchmanref05_Next.mono _ _ _)
      | (with_reducible exact watchmanref06_turn.mono _ _ _ _ _ _ _ _ _ _)
      | (with_reducible exact LeO.refl _)
      | (with_reducible exact LeO.none _)
      | (with_reducible refine LeO.ite ?_ ?_)
      | (with_reducible refine LeO.bind ?_ (fun _ => ?_))
      | exact ih0 _ _ _ _ _ _ _ _ _ _
      | exact watchmanref05_Next.mono _ _ _
      | exact watchmanref06_turn.mono _ _ _ _ _ _ _ _ _ _
      | exact LeO.none _
      | refine LeO.ite ?_ ?_
      | refine LeO.bind ?_ (fun _ => ?_)
set_option maxHeartbeats 8000000 in
set_option maxRecDepth 100000 in
theorem watchmanref06_Do.calls (k : Nat) (a0_0 : Int) (a0_1 : Int) (a0_2 : Int) (a0_3 : Int) (a0_4 : Int) (a0_5 : Int) (a1 : Int) (a2 : Int) (a3 : Int) (r1 : Int) (r2 : Int) (r3 : Int) (r4 : Int) (r5 : Int) (r6 : Int) (r7 : Int) (w : World) (h : watchmanref06_Do.f k a0_0 a0_1 a0_2 a0_3 a0_4 a0_5 a1 a2 a3 = some (r1, r2, r3, r4, r5, r6, r7)) :
    Calls Try.prog 10 #[.agg #[.int .i64 a0_0, .int .i64 a0_1, .int .i64 a0_2, .int .i64 a0_3, .int .i64 a0_4, .int .i64 a0_5], .int .i64 a1, .int .i64 a2, .int .i64 a3] w fun e w' => e = .returned (.tuple #[.agg #[.int .i64 r1, .int .i64 r2, .int .i64 r3, .int .i64 r4, .int .i64 r5, .int .i64 r6], .int .i64 r7]) ∧ Below w.heap.size w w' := by
  have hu25 := Try.underlying25
  have HB := Aside0.mk (Below.refl w.heap.size w)
  have H : ((watchmanref06_Is.f a0_0 a0_1 a0_2 a0_3 a0_4 a0_5).bind fun t151 => (if t151 = true then ((watchmanref06_time.f a2).bind fun t152 => (if t152 = true then (if a1 = 2 then (if a1 = 4 then (none) else (watchmanref06_Do.j0 k a1 a2 a3 false a0_0 a0_1 a0_2 a0_3 a0_4 a0_5)) else (if a1 = 3 then (if a1 = 4 then (none) else (watchmanref06_Do.j0 k a1 a2 a3 false a0_0 a0_1 a0_2 a0_3 a0_4 a0_5)) else (if a1 = 4 then (if a3 < 1 then (watchmanref06_Do.j0 k a1 a2 a3 true a0_0 a0_1 a0_2 a0_3 a0_4 a0_5) else (watchmanref06_Do.j0 k a1 a2 a3 (decide (a3 > 1000)) a0_0 a0_1 a0_2 a0_3 a0_4 a0_5)) else (if a1 = 6 then (watchmanref06_Do.j0 k a1 a2 a3 false a0_0 a0_1 a0_2 a0_3 a0_4 a0_5) else (watchmanref06_Do.j0 k a1 a2 a3 true a0_0 a0_1 a0_2 a0_3 a0_4 a0_5))))) else (watchmanref06_Do.j0 k a1 a2 a3 true a0_0 a0_1 a0_2 a0_3 a0_4 a0_5))) else (watchmanref06_Do.j0 k a1 a2 a3 true a0_0 a0_1 a0_2 a0_3 a0_4 a0_5))) = some (r1, r2, r3, r4, r5, r6, r7) := h
  clear h
  have HC5 := Aside0.mk H
  clear H
  go_enter Try.func10, Try.ntmps10
  go_upto_region 1 with (first | ((with_reducible refine gate_dst (N := 4) rfl ?_); refine box_event ?hg (N := 4) ?hd (cs := #[.int .i64 a0_0, .int .i64 a0_1, .int .i64 a0_2, .int .i64 a0_3, .int .i64 a0_4, .int .i64 a0_5]) (t := 25) ?hr ?_; (case hd => rfl); (case hg => rfl); (case hr => first | (go_simp; done) | (go_simp; rfl)); intro gb149 hg w6 hbox hb; have n0_ := Aside0.mk (below_step (by repeat (first | (with_reducible first | exact HB.out | apply below_alloc | apply pw_below_drewN | apply below_drew1) | exact HB.out)) hb); have n1_ := Aside0.mk (hbox); have n2_ := Aside0.mk ((by rw [hg]; exact (below_size (by repeat (first | (with_reducible first | exact HB.out | apply below_alloc | apply pw_below_drewN | apply below_drew1) | exact HB.out))) : w.heap.size ≤ gb149)); have n3_ := Aside0.mk ((by rw [hg]; exact (below_size (by repeat (first | (with_reducible first | exact HB.out | apply below_alloc | apply pw_below_drewN | apply below_drew1) | exact HB.out))) : w.heap.size ≤ gb149)); clear HB; have HB := n0_; have BK149 := n1_; have GW149 := n2_; have GE149 := n3_; clear n0_ n1_ n2_ n3_; clear hb hbox hg) | ((with_reducible refine gate_dst (N := 8) rfl ?_); refine box_event ?hg (N := 8) ?hd (cs := #[.int .i64 0, .int .i64 0, .int .i64 0, .int .i64 0, .int .i64 0, .int .i64 0]) (t := 25) ?hr ?_; (case hd => rfl); (case hg => rfl); (case hr => first | (go_simp; done) | (go_simp; rfl)); intro gb150 hg w7 hbox hb; have n0_ := Aside0.mk (blk_below (g := gb149) (o := .cells #[.int .i64 a0_0, .int .i64 a0_1, .int .i64 a0_2, .int .i64 a0_3, .int .i64 a0_4, .int .i64 a0_5] 25 (0, 0)) (by (with_reducible repeat (first | refine blk_drewN ?_ _ | refine blk_drew ?_ | refine blk_alloc ?_ _)); exact BK149.out) hb); have n1_ := Aside0.mk (below_step (by repeat (first | (with_reducible first | exact HB.out | apply below_alloc | apply pw_below_drewN | apply below_drew1 | refine below_set ?_ GE149.out) | exact HB.out)) hb); have n2_ := Aside0.mk (hbox); have n3_ := Aside0.mk ((by rw [hg]; exact (below_size (by repeat (first | (with_reducible first | exact HB.out | apply below_alloc | apply pw_below_drewN | apply below_drew1 | refine below_set ?_ GE149.out) | exact HB.out))) : w.heap.size ≤ gb150)); have n4_ := Aside0.mk ((by rw [hg]; exact (below_size (by repeat (first | (with_reducible first | exact HB.out | apply below_alloc | apply pw_below_drewN | apply below_drew1 | refine below_set ?_ GE149.out) | exact HB.out))) : w.heap.size ≤ gb150)); have n5_ := Aside0.mk ((by rw [hg]; exact Nat.ne_of_lt (blk_lt (g := gb149) (o := .cells #[.int .i64 a0_0, .int .i64 a0_1, .int .i64 a0_2, .int .i64 a0_3, .int .i64 a0_4, .int .i64 a0_5] 25 (0, 0)) (by (with_reducible repeat (first | refine blk_drewN ?_ _ | refine blk_drew ?_ | refine blk_alloc ?_ _)); exact BK149.out)) : gb149 ≠ gb150)); have n6_ := Aside0.mk ((by rw [hg]; exact Nat.ne_of_gt (blk_lt (g := gb149) (o := .cells #[.int .i64 a0_0, .int .i64 a0_1, .int .i64 a0_2, .int .i64 a0_3, .int .i64 a0_4, .int .i64 a0_5] 25 (0, 0)) (by (with_reducible repeat (first | refine blk_drewN ?_ _ | refine blk_drew ?_ | refine blk_alloc ?_ _)); exact BK149.out)) : gb150 ≠ gb149)); clear BK149; clear HB; have BK149 := n0_; have HB := n1_; have BK150 := n2_; have GW150 := n3_; have GE150 := n4_; have NB149_150 := n5_; have NB150_149 := n6_; clear n0_ n1_ n2_ n3_ n4_ n5_ n6_; clear hb hbox hg))
  (try simp only [Act.put, List.setIfInBounds_toArray, List.set_cons_zero, List.set_cons_succ])
  go_cut [47] (fun v47 wc => ∃ (kq : Nat) (x47_4 : Bool), v47 = .bool x47_4 ∧ Aside0 (watchmanref06_Do.j0 kq a1 a2 a3 x47_4 a0_0 a0_1 a0_2 a0_3 a0_4 a0_5 = some (r1, r2, r3, r4, r5, r6, r7)) ∧ Aside0 (kq ≤ k) ∧ Aside0 (wc.heap[gb149]? = some (.cells #[.int .i64 a0_0, .int .i64 a0_1, .int .i64 a0_2, .int .i64 a0_3, .int .i64 a0_4, .int .i64 a0_5] 25 (0, 0))) ∧ Aside0 (wc.heap[gb150]? = some (.cells #[.int .i64 0, .int .i64 0, .int .i64 0, .int .i64 0, .int .i64 0, .int .i64 0] 25 (0, 0))) ∧ Aside0 (Below w.heap.size w wc))
  case first =>
    have H := HC5.out
    clear HC5
    replace H := Option.bind_eq_some_iff.mp H
    obtain ⟨t151, A80, H⟩ := H
    replace H : (if t151 = true then ((watchmanref06_time.f a2).bind fun t152 => (if t152 = true then (if a1 = 2 then (if a1 = 4 then (none) else (watchmanref06_Do.j0 k a1 a2 a3 false a0_0 a0_1 a0_2 a0_3 a0_4 a0_5)) else (if a1 = 3 then (if a1 = 4 then (none) else (watchmanref06_Do.j0 k a1 a2 a3 false a0_0 a0_1 a0_2 a0_3 a0_4 a0_5)) else (if a1 = 4 then (if a3 < 1 then (watchmanref06_Do.j0 k a1 a2 a3 true a0_0 a0_1 a0_2 a0_3 a0_4 a0_5) else (watchmanref06_Do.j0 k a1 a2 a3 (decide (a3 > 1000)) a0_0 a0_1 a0_2 a0_3 a0_4 a0_5)) else (if a1 = 6 then (watchmanref06_Do.j0 k a1 a2 a3 false a0_0 a0_1 a0_2 a0_3 a0_4 a0_5) else (watchmanref06_Do.j0 k a1 a2 a3 true a0_0 a0_1 a0_2 a0_3 a0_4 a0_5))))) else (watchmanref06_Do.j0 k a1 a2 a3 true a0_0 a0_1 a0_2 a0_3 a0_4 a0_5))) else (watchmanref06_Do.j0 k a1 a2 a3 true a0_0 a0_1 a0_2 a0_3 a0_4 a0_5)) = some (r1, r2, r3, r4, r5, r6, r7) := H
    have A8 := Aside0.mk A80
    clear A80
    by_cases c9 : t151 = true
    · subst c9
      have H1 : ((watchmanref06_time.f a2).bind fun t152 => (if t152 = true then (if a1 = 2 then (if a1 = 4 then (none) else (watchmanref06_Do.j0 k a1 a2 a3 false a0_0 a0_1 a0_2 a0_3 a0_4 a0_5)) else (if a1 = 3 then (if a1 = 4 then (none) else (watchmanref06_Do.j0 k a1 a2 a3 false a0_0 a0_1 a0_2 a0_3 a0_4 a0_5)) else (if a1 = 4 then (if a3 < 1 then (watchmanref06_Do.j0 k a1 a2 a3 true a0_0 a0_1 a0_2 a0_3 a0_4 a0_5) else (watchmanref06_Do.j0 k a1 a2 a3 (decide (a3 > 1000)) a0_0 a0_1 a0_2 a0_3 a0_4 a0_5)) else (if a1 = 6 then (watchmanref06_Do.j0 k a1 a2 a3 false a0_0 a0_1 a0_2 a0_3 a0_4 a0_5) else (watchmanref06_Do.j0 k a1 a2 a3 true a0_0 a0_1 a0_2 a0_3 a0_4 a0_5))))) else (watchmanref06_Do.j0 k a1 a2 a3 true a0_0 a0_1 a0_2 a0_3 a0_4 a0_5))) = some (r1, r2, r3, r4, r5, r6, r7) := by rw [if_pos rfl] at H; exact H
      clear H
      have H := H1
      clear H1
      replace H := Option.bind_eq_some_iff.mp H
      obtain ⟨t152, A100, H⟩ := H
      replace H : (if t152 = true then (if a1 = 2 then (if a1 = 4 then (none) else (watchmanref06_Do.j0 k a1 a2 a3 false a0_0 a0_1 a0_2 a0_3 a0_4 a0_5)) else (if a1 = 3 then (if a1 = 4 then (none) else (watchmanref06_Do.j0 k a1 a2 a3 false a0_0 a0_1 a0_2 a0_3 a0_4 a0_5)) else (if a1 = 4 then (if a3 < 1 then (watchmanref06_Do.j0 k a1 a2 a3 true a0_0 a0_1 a0_2 a0_3 a0_4 a0_5) else (watchmanref06_Do.j0 k a1 a2 a3 (decide (a3 > 1000)) a0_0 a0_1 a0_2 a0_3 a0_4 a0_5)) else (if a1 = 6 then (watchmanref06_Do.j0 k a1 a2 a3 false a0_0 a0_1 a0_2 a0_3 a0_4 a0_5) else (watchmanref06_Do.j0 k a1 a2 a3 true a0_0 a0_1 a0_2 a0_3 a0_4 a0_5))))) else (watchmanref06_Do.j0 k a1 a2 a3 true a0_0 a0_1 a0_2 a0_3 a0_4 a0_5)) = some (r1, r2, r3, r4, r5, r6, r7) := H
      have A10 := Aside0.mk A100
      clear A100
      by_cases c11 : t152 = true
      · subst c11
        have H1 : (if a1 = 2 then (if a1 = 4 then (none) else (watchmanref06_Do.j0 k a1 a2 a3 false a0_0 a0_1 a0_2 a0_3 a0_4 a0_5)) else (if a1 = 3 then (if a1 = 4 then (none) else (watchmanref06_Do.j0 k a1 a2 a3 false a0_0 a0_1 a0_2 a0_3 a0_4 a0_5)) else (if a1 = 4 then (if a3 < 1 then (watchmanref06_Do.j0 k a1 a2 a3 true a0_0 a0_1 a0_2 a0_3 a0_4 a0_5) else (watchmanref06_Do.j0 k a1 a2 a3 (decide (a3 > 1000)) a0_0 a0_1 a0_2 a0_3 a0_4 a0_5)) else (if a1 = 6 then (watchmanref06_Do.j0 k a1 a2 a3 false a0_0 a0_1 a0_2 a0_3 a0_4 a0_5) else (watchmanref06_Do.j0 k a1 a2 a3 true a0_0 a0_1 a0_2 a0_3 a0_4 a0_5))))) = some (r1, r2, r3, r4, r5, r6, r7) := by rw [if_pos rfl] at H; exact H
        clear H
        have H := H1
        clear H1
        by_cases c12 : a1 = 2
        · rw [if_pos c12] at H
          have c12b0 : (a1 == 2) = true := beq_iff_eq.mpr c12
          have c12b1 : (a1 != 2) = false := bne_eq_false_iff_eq.mpr c12
          clear c12
          (first | rw [c12b0] | (simp only [i64_w, i32_w]; rw [c12b0]) | skip)
          by_cases c13 : a1 = 4
          · rw [if_pos c13] at H
            exact absurd H (by simp)
          · rw [if_neg c13] at H
            have c13b0 : (a1 == 4) = false := beq_eq_false_iff_ne.mpr c13
            have c13b1 : (a1 != 4) = true := bne_iff_ne.mpr c13
            have H' := Aside0.mk H
            clear H
            have hnb14 := NB149_150.out
            have hnc14 := NB150_149.out
            have hcz15_0 : w7.cell? ⟨gb149, 0, none⟩ = some (.int .i64 a0_0) := (blk_cell BK149.out 0).trans rfl
            have hcz15_1 : w7.cell? ⟨gb149, 1, none⟩ = some (.int .i64 a0_1) := (blk_cell BK149.out 1).trans rfl
            have hcz15_2 : w7.cell? ⟨gb149, 2, none⟩ = some (.int .i64 a0_2) := (blk_cell BK149.out 2).trans rfl
            have hcz15_3 : w7.cell? ⟨gb149, 3, none⟩ = some (.int .i64 a0_3) := (blk_cell BK149.out 3).trans rfl
            have hcz15_4 : w7.cell? ⟨gb149, 4, none⟩ = some (.int .i64 a0_4) := (blk_cell BK149.out 4).trans rfl
            have hcz15_5 : w7.cell? ⟨gb149, 5, none⟩ = some (.int .i64 a0_5) := (blk_cell BK149.out 5).trans rfl
            have hfz15_0 := blk_frozen BK149.out 0
            have hfz15_1 := blk_frozen BK149.out 1
            have hfz15_2 := blk_frozen BK149.out 2
            have hfz15_3 := blk_frozen BK149.out 3
            have hfz15_4 := blk_frozen BK149.out 4
            have hfz15_5 := blk_frozen BK149.out 5
            go_wp2_with (first | ((with_reducible refine gate_callee (f := 19) rfl ?_); refine goesL_ (some 13) rfl rfl Try.func19 (by kernel_rfl) rfl #[.agg #[.int .i64 a0_0, .int .i64 a0_1, .int .i64 a0_2, .int .i64 a0_3, .int .i64 a0_4, .int .i64 a0_5]] rfl (by (try simp only [List.map_toArray, List.map_cons, List.map_nil]); first | done | rfl | (simp only [List.length_drop, List.length_take]; rfl)) ?_; (with_reducible refine (watchmanref06_Is.calls a0_0 a0_1 a0_2 a0_3 a0_4 a0_5 true _ A8.out).mono ?_); rintro e w16 ⟨rfl, hb⟩; refine ⟨_, rfl, ?_⟩; have n0_ := Aside0.mk (blk_below (g := gb149) (o := .cells #[.int .i64 a0_0, .int .i64 a0_1, .int .i64 a0_2, .int .i64 a0_3, .int .i64 a0_4, .int .i64 a0_5] 25 (0, 0)) (by (with_reducible repeat (first | refine blk_drewN ?_ _ | refine blk_drew ?_ | refine blk_alloc ?_ _)); exact BK149.out) hb); have n1_ := Aside0.mk (blk_below (g := gb150) (o := .cells #[.int .i64 0, .int .i64 0, .int .i64 0, .int .i64 0, .int .i64 0, .int .i64 0] 25 (0, 0)) (by (with_reducible repeat (first | refine blk_drewN ?_ _ | refine blk_drew ?_ | refine blk_alloc ?_ _)); exact BK150.out) hb); have n2_ := Aside0.mk (below_step (by repeat (first | (with_reducible first | exact HB.out | apply below_alloc | apply pw_below_drewN | apply below_drew1 | refine below_set ?_ GE149.out | refine below_set ?_ GE150.out) | exact HB.out)) hb); clear BK149; clear BK150; clear HB; have BK149 := n0_; have BK150 := n1_; have HB := n2_; clear n0_ n1_ n2_; (try clear hb); (try clear hb2); (try clear hk); (try clear hi)) | (go_at_call 28; (with_reducible refine (watchmanref06_time.calls a2 true _ A10.out).mono ?_); rintro e w' ⟨rfl, ⟨nd, rfl⟩⟩))
            go_meet
            case rel => exact ⟨_, (false), (by first | rfl | (simp; done) | (simp [*]; done)), H', ⟨by first | omega | exact Nat.le_refl _⟩, ⟨by (with_reducible repeat (first | refine blk_drewN ?_ _ | refine blk_drew ?_ | refine blk_alloc ?_ _)); exact BK149.out⟩, ⟨by (with_reducible repeat (first | refine blk_drewN ?_ _ | refine blk_drew ?_ | refine blk_alloc ?_ _)); exact BK150.out⟩, ⟨by repeat (first | (with_reducible first | exact HB.out | apply below_alloc | apply pw_below_drewN | apply below_drew1 | refine below_set ?_ GE149.out | refine below_set ?_ GE150.out) | exact HB.out)⟩⟩
        · rw [if_neg c12] at H
          have c12b0 : (a1 == 2) = false := beq_eq_false_iff_ne.mpr c12
          have c12b1 : (a1 != 2) = true := bne_iff_ne.mpr c12
          (first | rw [c12b0] | (simp only [i64_w, i32_w]; rw [c12b0]) | skip)
          by_cases c17 : a1 = 3
          · rw [if_pos c17] at H
            have c17b0 : (a1 == 3) = true := beq_iff_eq.mpr c17
            have c17b1 : (a1 != 3) = false := bne_eq_false_iff_eq.mpr c17
            clear c17
            by_cases c18 : a1 = 4
            · rw [if_pos c18] at H
              exact absurd H (by simp)
            · rw [if_neg c18] at H
              have c18b0 : (a1 == 4) = false := beq_eq_false_iff_ne.mpr c18
              have c18b1 : (a1 != 4) = true := bne_iff_ne.mpr c18
              have H' := Aside0.mk H
              clear H
              have hnb19 := NB149_150.out
              have hnc19 := NB150_149.out
              have hcz20_0 : w7.cell? ⟨gb149, 0, none⟩ = some (.int .i64 a0_0) := (blk_cell BK149.out 0).trans rfl
              have hcz20_1 : w7.cell? ⟨gb149, 1, none⟩ = some (.int .i64 a0_1) := (blk_cell BK149.out 1).trans rfl
              have hcz20_2 : w7.cell? ⟨gb149, 2, none⟩ = some (.int .i64 a0_2) := (blk_cell BK149.out 2).trans rfl
              have hcz20_3 : w7.cell? ⟨gb149, 3, none⟩ = some (.int .i64 a0_3) := (blk_cell BK149.out 3).trans rfl
              have hcz20_4 : w7.cell? ⟨gb149, 4, none⟩ = some (.int .i64 a0_4) := (blk_cell BK149.out 4).trans rfl
              have hcz20_5 : w7.cell? ⟨gb149, 5, none⟩ = some (.int .i64 a0_5) := (blk_cell BK149.out 5).trans rfl
              have hfz20_0 := blk_frozen BK149.out 0
              have hfz20_1 := blk_frozen BK149.out 1
              have hfz20_2 := blk_frozen BK149.out 2
              have hfz20_3 := blk_frozen BK149.out 3
              have hfz20_4 := blk_frozen BK149.out 4
              have hfz20_5 := blk_frozen BK149.out 5
              go_wp2_with (first | ((with_reducible refine gate_callee (f := 19) rfl ?_); refine goesL_ (some 13) rfl rfl Try.func19 (by kernel_rfl) rfl #[.agg #[.int .i64 a0_0, .int .i64 a0_1, .int .i64 a0_2, .int .i64 a0_3, .int .i64 a0_4, .int .i64 a0_5]] rfl (by (try simp only [List.map_toArray, List.map_cons, List.map_nil]); first | done | rfl | (simp only [List.length_drop, List.length_take]; rfl)) ?_; (with_reducible refine (watchmanref06_Is.calls a0_0 a0_1 a0_2 a0_3 a0_4 a0_5 true _ A8.out).mono ?_); rintro e w21 ⟨rfl, hb⟩; refine ⟨_, rfl, ?_⟩; have n0_ := Aside0.mk (blk_below (g := gb149) (o := .cells #[.int .i64 a0_0, .int .i64 a0_1, .int .i64 a0_2, .int .i64 a0_3, .int .i64 a0_4, .int .i64 a0_5] 25 (0, 0)) (by (with_reducible repeat (first | refine blk_drewN ?_ _ | refine blk_drew ?_ | refine blk_alloc ?_ _)); exact BK149.out) hb); have n1_ := Aside0.mk (blk_below (g := gb150) (o := .cells #[.int .i64 0, .int .i64 0, .int .i64 0, .int .i64 0, .int .i64 0, .int .i64 0] 25 (0, 0)) (by (with_reducible repeat (first | refine blk_drewN ?_ _ | refine blk_drew ?_ | refine blk_alloc ?_ _)); exact BK150.out) hb); have n2_ := Aside0.mk (below_step (by repeat (first | (with_reducible first | exact HB.out | apply below_alloc | apply pw_below_drewN | apply below_drew1 | refine below_set ?_ GE149.out | refine below_set ?_ GE150.out) | exact HB.out)) hb); clear BK149; clear BK150; clear HB; have BK149 := n0_; have BK150 := n1_; have HB := n2_; clear n0_ n1_ n2_; (try clear hb); (try clear hb2); (try clear hk); (try clear hi)) | (go_at_call 28; (with_reducible refine (watchmanref06_time.calls a2 true _ A10.out).mono ?_); rintro e w' ⟨rfl, ⟨nd, rfl⟩⟩))
              go_meet
              case rel => exact ⟨_, (false), (by first | rfl | (simp; done) | (simp [*]; done)), H', ⟨by first | omega | exact Nat.le_refl _⟩, ⟨by (with_reducible repeat (first | refine blk_drewN ?_ _ | refine blk_drew ?_ | refine blk_alloc ?_ _)); exact BK149.out⟩, ⟨by (with_reducible repeat (first | refine blk_drewN ?_ _ | refine blk_drew ?_ | refine blk_alloc ?_ _)); exact BK150.out⟩, ⟨by repeat (first | (with_reducible first | exact HB.out | apply below_alloc | apply pw_below_drewN | apply below_drew1 | refine below_set ?_ GE149.out | refine below_set ?_ GE150.out) | exact HB.out)⟩⟩
          · rw [if_neg c17] at H
            have c17b0 : (a1 == 3) = false := beq_eq_false_iff_ne.mpr c17
            have c17b1 : (a1 != 3) = true := bne_iff_ne.mpr c17
            by_cases c22 : a1 = 4
            · rw [if_pos c22] at H
              have c22b0 : (a1 == 4) = true := beq_iff_eq.mpr c22
              have c22b1 : (a1 != 4) = false := bne_eq_false_iff_eq.mpr c22
              clear c22
              by_cases c23 : a3 < 1
              · rw [if_pos c23] at H
                have c23b0 : decide (a3 < 1) = true := decide_eq_true c23
                clear c23
                have H' := Aside0.mk H
                clear H
                have hnb24 := NB149_150.out
                have hnc24 := NB150_149.out
                have hcz25_0 : w7.cell? ⟨gb149, 0, none⟩ = some (.int .i64 a0_0) := (blk_cell BK149.out 0).trans rfl
                have hcz25_1 : w7.cell? ⟨gb149, 1, none⟩ = some (.int .i64 a0_1) := (blk_cell BK149.out 1).trans rfl
                have hcz25_2 : w7.cell? ⟨gb149, 2, none⟩ = some (.int .i64 a0_2) := (blk_cell BK149.out 2).trans rfl
                have hcz25_3 : w7.cell? ⟨gb149, 3, none⟩ = some (.int .i64 a0_3) := (blk_cell BK149.out 3).trans rfl
                have hcz25_4 : w7.cell? ⟨gb149, 4, none⟩ = some (.int .i64 a0_4) := (blk_cell BK149.out 4).trans rfl
                have hcz25_5 : w7.cell? ⟨gb149, 5, none⟩ = some (.int .i64 a0_5) := (blk_cell BK149.out 5).trans rfl
                have hfz25_0 := blk_frozen BK149.out 0
                have hfz25_1 := blk_frozen BK149.out 1
                have hfz25_2 := blk_frozen BK149.out 2
                have hfz25_3 := blk_frozen BK149.out 3
                have hfz25_4 := blk_frozen BK149.out 4
                have hfz25_5 := blk_frozen BK149.out 5
                go_wp2_with (first | ((with_reducible refine gate_callee (f := 19) rfl ?_); refine goesL_ (some 13) rfl rfl Try.func19 (by kernel_rfl) rfl #[.agg #[.int .i64 a0_0, .int .i64 a0_1, .int .i64 a0_2, .int .i64 a0_3, .int .i64 a0_4, .int .i64 a0_5]] rfl (by (try simp only [List.map_toArray, List.map_cons, List.map_nil]); first | done | rfl | (simp only [List.length_drop, List.length_take]; rfl)) ?_; (with_reducible refine (watchmanref06_Is.calls a0_0 a0_1 a0_2 a0_3 a0_4 a0_5 true _ A8.out).mono ?_); rintro e w26 ⟨rfl, hb⟩; refine ⟨_, rfl, ?_⟩; have n0_ := Aside0.mk (blk_below (g := gb149) (o := .cells #[.int .i64 a0_0, .int .i64 a0_1, .int .i64 a0_2, .int .i64 a0_3, .int .i64 a0_4, .int .i64 a0_5] 25 (0, 0)) (by (with_reducible repeat (first | refine blk_drewN ?_ _ | refine blk_drew ?_ | refine blk_alloc ?_ _)); exact BK149.out) hb); have n1_ := Aside0.mk (blk_below (g := gb150) (o := .cells #[.int .i64 0, .int .i64 0, .int .i64 0, .int .i64 0, .int .i64 0, .int .i64 0] 25 (0, 0)) (by (with_reducible repeat (first | refine blk_drewN ?_ _ | refine blk_drew ?_ | refine blk_alloc ?_ _)); exact BK150.out) hb); have n2_ := Aside0.mk (below_step (by repeat (first | (with_reducible first | exact HB.out | apply below_alloc | apply pw_below_drewN | apply below_drew1 | refine below_set ?_ GE149.out | refine below_set ?_ GE150.out) | exact HB.out)) hb); clear BK149; clear BK150; clear HB; have BK149 := n0_; have BK150 := n1_; have HB := n2_; clear n0_ n1_ n2_; (try clear hb); (try clear hb2); (try clear hk); (try clear hi)) | (go_at_call 28; (with_reducible refine (watchmanref06_time.calls a2 true _ A10.out).mono ?_); rintro e w' ⟨rfl, ⟨nd, rfl⟩⟩))
                go_meet
                case rel => exact ⟨_, (true), (by first | rfl | (simp; done) | (simp [*]; done)), H', ⟨by first | omega | exact Nat.le_refl _⟩, ⟨by (with_reducible repeat (first | refine blk_drewN ?_ _ | refine blk_drew ?_ | refine blk_alloc ?_ _)); exact BK149.out⟩, ⟨by (with_reducible repeat (first | refine blk_drewN ?_ _ | refine blk_drew ?_ | refine blk_alloc ?_ _)); exact BK150.out⟩, ⟨by repeat (first | (with_reducible first | exact HB.out | apply below_alloc | apply pw_below_drewN | apply below_drew1 | refine below_set ?_ GE149.out | refine below_set ?_ GE150.out) | exact HB.out)⟩⟩
              · rw [if_neg c23] at H
                have c23b0 : decide (a3 < 1) = false := decide_eq_false c23
                clear c23
                have H' := Aside0.mk H
                clear H
                have hnb27 := NB149_150.out
                have hnc27 := NB150_149.out
                have hcz28_0 : w7.cell? ⟨gb149, 0, none⟩ = some (.int .i64 a0_0) := (blk_cell BK149.out 0).trans rfl
                have hcz28_1 : w7.cell? ⟨gb149, 1, none⟩ = some (.int .i64 a0_1) := (blk_cell BK149.out 1).trans rfl
                have hcz28_2 : w7.cell? ⟨gb149, 2, none⟩ = some (.int .i64 a0_2) := (blk_cell BK149.out 2).trans rfl
                have hcz28_3 : w7.cell? ⟨gb149, 3, none⟩ = some (.int .i64 a0_3) := (blk_cell BK149.out 3).trans rfl
                have hcz28_4 : w7.cell? ⟨gb149, 4, none⟩ = some (.int .i64 a0_4) := (blk_cell BK149.out 4).trans rfl
                have hcz28_5 : w7.cell? ⟨gb149, 5, none⟩ = some (.int .i64 a0_5) := (blk_cell BK149.out 5).trans rfl
                have hfz28_0 := blk_frozen BK149.out 0
                have hfz28_1 := blk_frozen BK149.out 1
                have hfz28_2 := blk_frozen BK149.out 2
                have hfz28_3 := blk_frozen BK149.out 3
                have hfz28_4 := blk_frozen BK149.out 4
                have hfz28_5 := blk_frozen BK149.out 5
                go_wp2_with (first | ((with_reducible refine gate_callee (f := 19) rfl ?_); refine goesL_ (some 13) rfl rfl Try.func19 (by kernel_rfl) rfl #[.agg #[.int .i64 a0_0, .int .i64 a0_1, .int .i64 a0_2, .int .i64 a0_3, .int .i64 a0_4, .int .i64 a0_5]] rfl (by (try simp only [List.map_toArray, List.map_cons, List.map_nil]); first | done | rfl | (simp only [List.length_drop, List.length_take]; rfl)) ?_; (with_reducible refine (watchmanref06_Is.calls a0_0 a0_1 a0_2 a0_3 a0_4 a0_5 true _ A8.out).mono ?_); rintro e w29 ⟨rfl, hb⟩; refine ⟨_, rfl, ?_⟩; have n0_ := Aside0.mk (blk_below (g := gb149) (o := .cells #[.int .i64 a0_0, .int .i64 a0_1, .int .i64 a0_2, .int .i64 a0_3, .int .i64 a0_4, .int .i64 a0_5] 25 (0, 0)) (by (with_reducible repeat (first | refine blk_drewN ?_ _ | refine blk_drew ?_ | refine blk_alloc ?_ _)); exact BK149.out) hb); have n1_ := Aside0.mk (blk_below (g := gb150) (o := .cells #[.int .i64 0, .int .i64 0, .int .i64 0, .int .i64 0, .int .i64 0, .int .i64 0] 25 (0, 0)) (by (with_reducible repeat (first | refine blk_drewN ?_ _ | refine blk_drew ?_ | refine blk_alloc ?_ _)); exact BK150.out) hb); have n2_ := Aside0.mk (below_step (by repeat (first | (with_reducible first | exact HB.out | apply below_alloc | apply pw_below_drewN | apply below_drew1 | refine below_set ?_ GE149.out | refine below_set ?_ GE150.out) | exact HB.out)) hb); clear BK149; clear BK150; clear HB; have BK149 := n0_; have BK150 := n1_; have HB := n2_; clear n0_ n1_ n2_; (try clear hb); (try clear hb2); (try clear hk); (try clear hi)) | (go_at_call 28; (with_reducible refine (watchmanref06_time.calls a2 true _ A10.out).mono ?_); rintro e w' ⟨rfl, ⟨nd, rfl⟩⟩))
                go_meet
                case rel => exact ⟨_, (decide (a3 > 1000)), (by first | rfl | (simp; done) | (simp [*]; done)), H', ⟨by first | omega | exact Nat.le_refl _⟩, ⟨by (with_reducible repeat (first | refine blk_drewN ?_ _ | refine blk_drew ?_ | refine blk_alloc ?_ _)); exact BK149.out⟩, ⟨by (with_reducible repeat (first | refine blk_drewN ?_ _ | refine blk_drew ?_ | refine blk_alloc ?_ _)); exact BK150.out⟩, ⟨by repeat (first | (with_reducible first | exact HB.out | apply below_alloc | apply pw_below_drewN | apply below_drew1 | refine below_set ?_ GE149.out | refine below_set ?_ GE150.out) | exact HB.out)⟩⟩
            · rw [if_neg c22] at H
              have c22b0 : (a1 == 4) = false := beq_eq_false_iff_ne.mpr c22
              have c22b1 : (a1 != 4) = true := bne_iff_ne.mpr c22
              by_cases c30 : a1 = 6
              · rw [if_pos c30] at H
                have c30b0 : (a1 == 6) = true := beq_iff_eq.mpr c30
                have c30b1 : (a1 != 6) = false := bne_eq_false_iff_eq.mpr c30
                clear c30
                have H' := Aside0.mk H
                clear H
                have hnb31 := NB149_150.out
                have hnc31 := NB150_149.out
                have hcz32_0 : w7.cell? ⟨gb149, 0, none⟩ = some (.int .i64 a0_0) := (blk_cell BK149.out 0).trans rfl
                have hcz32_1 : w7.cell? ⟨gb149, 1, none⟩ = some (.int .i64 a0_1) := (blk_cell BK149.out 1).trans rfl
                have hcz32_2 : w7.cell? ⟨gb149, 2, none⟩ = some (.int .i64 a0_2) := (blk_cell BK149.out 2).trans rfl
                have hcz32_3 : w7.cell? ⟨gb149, 3, none⟩ = some (.int .i64 a0_3) := (blk_cell BK149.out 3).trans rfl
                have hcz32_4 : w7.cell? ⟨gb149, 4, none⟩ = some (.int .i64 a0_4) := (blk_cell BK149.out 4).trans rfl
                have hcz32_5 : w7.cell? ⟨gb149, 5, none⟩ = some (.int .i64 a0_5) := (blk_cell BK149.out 5).trans rfl
                have hfz32_0 := blk_frozen BK149.out 0
                have hfz32_1 := blk_frozen BK149.out 1
                have hfz32_2 := blk_frozen BK149.out 2
                have hfz32_3 := blk_frozen BK149.out 3
                have hfz32_4 := blk_frozen BK149.out 4
                have hfz32_5 := blk_frozen BK149.out 5
                go_wp2_with (first | ((with_reducible refine gate_callee (f := 19) rfl ?_); refine goesL_ (some 13) rfl rfl Try.func19 (by kernel_rfl) rfl #[.agg #[.int .i64 a0_0, .int .i64 a0_1, .int .i64 a0_2, .int .i64 a0_3, .int .i64 a0_4, .int .i64 a0_5]] rfl (by (try simp only [List.map_toArray, List.map_cons, List.map_nil]); first | done | rfl | (simp only [List.length_drop, List.length_take]; rfl)) ?_; (with_reducible refine (watchmanref06_Is.calls a0_0 a0_1 a0_2 a0_3 a0_4 a0_5 true _ A8.out).mono ?_); rintro e w33 ⟨rfl, hb⟩; refine ⟨_, rfl, ?_⟩; have n0_ := Aside0.mk (blk_below (g := gb149) (o := .cells #[.int .i64 a0_0, .int .i64 a0_1, .int .i64 a0_2, .int .i64 a0_3, .int .i64 a0_4, .int .i64 a0_5] 25 (0, 0)) (by (with_reducible repeat (first | refine blk_drewN ?_ _ | refine blk_drew ?_ | refine blk_alloc ?_ _)); exact BK149.out) hb); have n1_ := Aside0.mk (blk_below (g := gb150) (o := .cells #[.int .i64 0, .int .i64 0, .int .i64 0, .int .i64 0, .int .i64 0, .int .i64 0] 25 (0, 0)) (by (with_reducible repeat (first | refine blk_drewN ?_ _ | refine blk_drew ?_ | refine blk_alloc ?_ _)); exact BK150.out) hb); have n2_ := Aside0.mk (below_step (by repeat (first | (with_reducible first | exact HB.out | apply below_alloc | apply pw_below_drewN | apply below_drew1 | refine below_set ?_ GE149.out | refine below_set ?_ GE150.out) | exact HB.out)) hb); clear BK149; clear BK150; clear HB; have BK149 := n0_; have BK150 := n1_; have HB := n2_; clear n0_ n1_ n2_; (try clear hb); (try clear hb2); (try clear hk); (try clear hi)) | (go_at_call 28; (with_reducible refine (watchmanref06_time.calls a2 true _ A10.out).mono ?_); rintro e w' ⟨rfl, ⟨nd, rfl⟩⟩))
                go_meet
                case rel => exact ⟨_, (false), (by first | rfl | (simp; done) | (simp [*]; done)), H', ⟨by first | omega | exact Nat.le_refl _⟩, ⟨by (with_reducible repeat (first | refine blk_drewN ?_ _ | refine blk_drew ?_ | refine blk_alloc ?_ _)); exact BK149.out⟩, ⟨by (with_reducible repeat (first | refine blk_drewN ?_ _ | refine blk_drew ?_ | refine blk_alloc ?_ _)); exact BK150.out⟩, ⟨by repeat (first | (with_reducible first | exact HB.out | apply below_alloc | apply pw_below_drewN | apply below_drew1 | refine below_set ?_ GE149.out | refine below_set ?_ GE150.out) | exact HB.out)⟩⟩
              · rw [if_neg c30] at H
                have c30b0 : (a1 == 6) = false := beq_eq_false_iff_ne.mpr c30
                have c30b1 : (a1 != 6) = true := bne_iff_ne.mpr c30
                have H' := Aside0.mk H
                clear H
                have hnb34 := NB149_150.out
                have hnc34 := NB150_149.out
                have hcz35_0 : w7.cell? ⟨gb149, 0, none⟩ = some (.int .i64 a0_0) := (blk_cell BK149.out 0).trans rfl
                have hcz35_1 : w7.cell? ⟨gb149, 1, none⟩ = some (.int .i64 a0_1) := (blk_cell BK149.out 1).trans rfl
                have hcz35_2 : w7.cell? ⟨gb149, 2, none⟩ = some (.int .i64 a0_2) := (blk_cell BK149.out 2).trans rfl
                have hcz35_3 : w7.cell? ⟨gb149, 3, none⟩ = some (.int .i64 a0_3) := (blk_cell BK149.out 3).trans rfl
                have hcz35_4 : w7.cell? ⟨gb149, 4, none⟩ = some (.int .i64 a0_4) := (blk_cell BK149.out 4).trans rfl
                have hcz35_5 : w7.cell? ⟨gb149, 5, none⟩ = some (.int .i64 a0_5) := (blk_cell BK149.out 5).trans rfl
                have hfz35_0 := blk_frozen BK149.out 0
                have hfz35_1 := blk_frozen BK149.out 1
                have hfz35_2 := blk_frozen BK149.out 2
                have hfz35_3 := blk_frozen BK149.out 3
                have hfz35_4 := blk_frozen BK149.out 4
                have hfz35_5 := blk_frozen BK149.out 5
                go_wp2_with (first | ((with_reducible refine gate_callee (f := 19) rfl ?_); refine goesL_ (some 13) rfl rfl Try.func19 (by kernel_rfl) rfl #[.agg #[.int .i64 a0_0, .int .i64 a0_1, .int .i64 a0_2, .int .i64 a0_3, .int .i64 a0_4, .int .i64 a0_5]] rfl (by (try simp only [List.map_toArray, List.map_cons, List.map_nil]); first | done | rfl | (simp only [List.length_drop, List.length_take]; rfl)) ?_; (with_reducible refine (watchmanref06_Is.calls a0_0 a0_1 a0_2 a0_3 a0_4 a0_5 true _ A8.out).mono ?_); rintro e w36 ⟨rfl, hb⟩; refine ⟨_, rfl, ?_⟩; have n0_ := Aside0.mk (blk_below (g := gb149) (o := .cells #[.int .i64 a0_0, .int .i64 a0_1, .int .i64 a0_2, .int .i64 a0_3, .int .i64 a0_4, .int .i64 a0_5] 25 (0, 0)) (by (with_reducible repeat (first | refine blk_drewN ?_ _ | refine blk_drew ?_ | refine blk_alloc ?_ _)); exact BK149.out) hb); have n1_ := Aside0.mk (blk_below (g := gb150) (o := .cells #[.int .i64 0, .int .i64 0, .int .i64 0, .int .i64 0, .int .i64 0, .int .i64 0] 25 (0, 0)) (by (with_reducible repeat (first | refine blk_drewN ?_ _ | refine blk_drew ?_ | refine blk_alloc ?_ _)); exact BK150.out) hb); have n2_ := Aside0.mk (below_step (by repeat (first | (with_reducible first | exact HB.out | apply below_alloc | apply pw_below_drewN | apply below_drew1 | refine below_set ?_ GE149.out | refine below_set ?_ GE150.out) | exact HB.out)) hb); clear BK149; clear BK150; clear HB; have BK149 := n0_; have BK150 := n1_; have HB := n2_; clear n0_ n1_ n2_; (try clear hb); (try clear hb2); (try clear hk); (try clear hi)) | (go_at_call 28; (with_reducible refine (watchmanref06_time.calls a2 true _ A10.out).mono ?_); rintro e w' ⟨rfl, ⟨nd, rfl⟩⟩))
                go_meet
                case rel => exact ⟨_, (true), (by first | rfl | (simp; done) | (simp [*]; done)), H', ⟨by first | omega | exact Nat.le_refl _⟩, ⟨by (with_reducible repeat (first | refine blk_drewN ?_ _ | refine blk_drew ?_ | refine blk_alloc ?_ _)); exact BK149.out⟩, ⟨by (with_reducible repeat (first | refine blk_drewN ?_ _ | refine blk_drew ?_ | refine blk_alloc ?_ _)); exact BK150.out⟩, ⟨by repeat (first | (with_reducible first | exact HB.out | apply below_alloc | apply pw_below_drewN | apply below_drew1 | refine below_set ?_ GE149.out | refine below_set ?_ GE150.out) | exact HB.out)⟩⟩
      · replace c11 := Bool.eq_false_iff.mpr c11
        subst c11
        have H1 : (watchmanref06_Do.j0 k a1 a2 a3 true a0_0 a0_1 a0_2 a0_3 a0_4 a0_5) = some (r1, r2, r3, r4, r5, r6, r7) := by rw [if_neg (show ¬ (false = true) by decide)] at H; exact H
        clear H
        have H := H1
        clear H1
        have H' := Aside0.mk H
        clear H
        have hnb37 := NB149_150.out
        have hnc37 := NB150_149.out
        have hcz38_0 : w7.cell? ⟨gb149, 0, none⟩ = some (.int .i64 a0_0) := (blk_cell BK149.out 0).trans rfl
        have hcz38_1 : w7.cell? ⟨gb149, 1, none⟩ = some (.int .i64 a0_1) := (blk_cell BK149.out 1).trans rfl
        have hcz38_2 : w7.cell? ⟨gb149, 2, none⟩ = some (.int .i64 a0_2) := (blk_cell BK149.out 2).trans rfl
        have hcz38_3 : w7.cell? ⟨gb149, 3, none⟩ = some (.int .i64 a0_3) := (blk_cell BK149.out 3).trans rfl
        have hcz38_4 : w7.cell? ⟨gb149, 4, none⟩ = some (.int .i64 a0_4) := (blk_cell BK149.out 4).trans rfl
        have hcz38_5 : w7.cell? ⟨gb149, 5, none⟩ = some (.int .i64 a0_5) := (blk_cell BK149.out 5).trans rfl
        have hfz38_0 := blk_frozen BK149.out 0
        have hfz38_1 := blk_frozen BK149.out 1
        have hfz38_2 := blk_frozen BK149.out 2
        have hfz38_3 := blk_frozen BK149.out 3
        have hfz38_4 := blk_frozen BK149.out 4
        have hfz38_5 := blk_frozen BK149.out 5
        go_wp2_with (first | ((with_reducible refine gate_callee (f := 19) rfl ?_); refine goesL_ (some 13) rfl rfl Try.func19 (by kernel_rfl) rfl #[.agg #[.int .i64 a0_0, .int .i64 a0_1, .int .i64 a0_2, .int .i64 a0_3, .int .i64 a0_4, .int .i64 a0_5]] rfl (by (try simp only [List.map_toArray, List.map_cons, List.map_nil]); first | done | rfl | (simp only [List.length_drop, List.length_take]; rfl)) ?_; (with_reducible refine (watchmanref06_Is.calls a0_0 a0_1 a0_2 a0_3 a0_4 a0_5 true _ A8.out).mono ?_); rintro e w39 ⟨rfl, hb⟩; refine ⟨_, rfl, ?_⟩; have n0_ := Aside0.mk (blk_below (g := gb149) (o := .cells #[.int .i64 a0_0, .int .i64 a0_1, .int .i64 a0_2, .int .i64 a0_3, .int .i64 a0_4, .int .i64 a0_5] 25 (0, 0)) (by (with_reducible repeat (first | refine blk_drewN ?_ _ | refine blk_drew ?_ | refine blk_alloc ?_ _)); exact BK149.out) hb); have n1_ := Aside0.mk (blk_below (g := gb150) (o := .cells #[.int .i64 0, .int .i64 0, .int .i64 0, .int .i64 0, .int .i64 0, .int .i64 0] 25 (0, 0)) (by (with_reducible repeat (first | refine blk_drewN ?_ _ | refine blk_drew ?_ | refine blk_alloc ?_ _)); exact BK150.out) hb); have n2_ := Aside0.mk (below_step (by repeat (first | (with_reducible first | exact HB.out | apply below_alloc | apply pw_below_drewN | apply below_drew1 | refine below_set ?_ GE149.out | refine below_set ?_ GE150.out) | exact HB.out)) hb); clear BK149; clear BK150; clear HB; have BK149 := n0_; have BK150 := n1_; have HB := n2_; clear n0_ n1_ n2_; (try clear hb); (try clear hb2); (try clear hk); (try clear hi)) | (go_at_call 28; (with_reducible refine (watchmanref06_time.calls a2 false _ A10.out).mono ?_); rintro e w' ⟨rfl, ⟨nd, rfl⟩⟩))
        go_meet
        case rel => exact ⟨_, (true), (by first | rfl | (simp; done) | (simp [*]; done)), H', ⟨by first | omega | exact Nat.le_refl _⟩, ⟨by (with_reducible repeat (first | refine blk_drewN ?_ _ | refine blk_drew ?_ | refine blk_alloc ?_ _)); exact BK149.out⟩, ⟨by (with_reducible repeat (first | refine blk_drewN ?_ _ | refine blk_drew ?_ | refine blk_alloc ?_ _)); exact BK150.out⟩, ⟨by repeat (first | (with_reducible first | exact HB.out | apply below_alloc | apply pw_below_drewN | apply below_drew1 | refine below_set ?_ GE149.out | refine below_set ?_ GE150.out) | exact HB.out)⟩⟩
    · replace c9 := Bool.eq_false_iff.mpr c9
      subst c9
      have H1 : (watchmanref06_Do.j0 k a1 a2 a3 true a0_0 a0_1 a0_2 a0_3 a0_4 a0_5) = some (r1, r2, r3, r4, r5, r6, r7) := by rw [if_neg (show ¬ (false = true) by decide)] at H; exact H
      clear H
      have H := H1
      clear H1
      have H' := Aside0.mk H
      clear H
      have hnb40 := NB149_150.out
      have hnc40 := NB150_149.out
      have hcz41_0 : w7.cell? ⟨gb149, 0, none⟩ = some (.int .i64 a0_0) := (blk_cell BK149.out 0).trans rfl
      have hcz41_1 : w7.cell? ⟨gb149, 1, none⟩ = some (.int .i64 a0_1) := (blk_cell BK149.out 1).trans rfl
      have hcz41_2 : w7.cell? ⟨gb149, 2, none⟩ = some (.int .i64 a0_2) := (blk_cell BK149.out 2).trans rfl
      have hcz41_3 : w7.cell? ⟨gb149, 3, none⟩ = some (.int .i64 a0_3) := (blk_cell BK149.out 3).trans rfl
      have hcz41_4 : w7.cell? ⟨gb149, 4, none⟩ = some (.int .i64 a0_4) := (blk_cell BK149.out 4).trans rfl
      have hcz41_5 : w7.cell? ⟨gb149, 5, none⟩ = some (.int .i64 a0_5) := (blk_cell BK149.out 5).trans rfl
      have hfz41_0 := blk_frozen BK149.out 0
      have hfz41_1 := blk_frozen BK149.out 1
      have hfz41_2 := blk_frozen BK149.out 2
      have hfz41_3 := blk_frozen BK149.out 3
      have hfz41_4 := blk_frozen BK149.out 4
      have hfz41_5 := blk_frozen BK149.out 5
      go_wp2_with (first | ((with_reducible refine gate_callee (f := 19) rfl ?_); refine goesL_ (some 13) rfl rfl Try.func19 (by kernel_rfl) rfl #[.agg #[.int .i64 a0_0, .int .i64 a0_1, .int .i64 a0_2, .int .i64 a0_3, .int .i64 a0_4, .int .i64 a0_5]] rfl (by (try simp only [List.map_toArray, List.map_cons, List.map_nil]); first | done | rfl | (simp only [List.length_drop, List.length_take]; rfl)) ?_; (with_reducible refine (watchmanref06_Is.calls a0_0 a0_1 a0_2 a0_3 a0_4 a0_5 false _ A8.out).mono ?_); rintro e w42 ⟨rfl, hb⟩; refine ⟨_, rfl, ?_⟩; have n0_ := Aside0.mk (blk_below (g := gb149) (o := .cells #[.int .i64 a0_0, .int .i64 a0_1, .int .i64 a0_2, .int .i64 a0_3, .int .i64 a0_4, .int .i64 a0_5] 25 (0, 0)) (by (with_reducible repeat (first | refine blk_drewN ?_ _ | refine blk_drew ?_ | refine blk_alloc ?_ _)); exact BK149.out) hb); have n1_ := Aside0.mk (blk_below (g := gb150) (o := .cells #[.int .i64 0, .int .i64 0, .int .i64 0, .int .i64 0, .int .i64 0, .int .i64 0] 25 (0, 0)) (by (with_reducible repeat (first | refine blk_drewN ?_ _ | refine blk_drew ?_ | refine blk_alloc ?_ _)); exact BK150.out) hb); have n2_ := Aside0.mk (below_step (by repeat (first | (with_reducible first | exact HB.out | apply below_alloc | apply pw_below_drewN | apply below_drew1 | refine below_set ?_ GE149.out | refine below_set ?_ GE150.out) | exact HB.out)) hb); clear BK149; clear BK150; clear HB; have BK149 := n0_; have BK150 := n1_; have HB := n2_; clear n0_ n1_ n2_; (try clear hb); (try clear hb2); (try clear hk); (try clear hi)))
      go_meet
      case rel => exact ⟨_, (true), (by first | rfl | (simp; done) | (simp [*]; done)), H', ⟨by first | omega | exact Nat.le_refl _⟩, ⟨by (with_reducible repeat (first | refine blk_drewN ?_ _ | refine blk_drew ?_ | refine blk_alloc ?_ _)); exact BK149.out⟩, ⟨by (with_reducible repeat (first | refine blk_drewN ?_ _ | refine blk_drew ?_ | refine blk_alloc ?_ _)); exact BK150.out⟩, ⟨by repeat (first | (with_reducible first | exact HB.out | apply below_alloc | apply pw_below_drewN | apply below_drew1 | refine below_set ?_ GE149.out | refine below_set ?_ GE150.out) | exact HB.out)⟩⟩
  case rest =>
    clear HC5
    try clear c1
    try clear c2
    try clear p2
    try clear c3
    try clear c4
    try clear c9
    try clear c10
    try clear c11
    try clear c12
    try clear c12b0
    try clear c12b1
    try clear c13
    try clear c13b0
    try clear c13b1
    try clear c14
    try clear c17
    try clear c17b0
    try clear c17b1
    try clear c18
    try clear c18b0
    try clear c18b1
    try clear c19
    try clear c22
    try clear c22b0
    try clear c22b1
    try clear c23
    try clear c23b0
    try clear c24
    try clear c27
    try clear c30
    try clear c30b0
    try clear c30b1
    try clear c31
    try clear c34
    try clear c37
    try clear c40
    try clear hcz15_0
    try clear hcz15_1
    try clear hcz15_2
    try clear hcz15_3
    try clear hcz15_4
    try clear hcz15_5
    try clear hcz20_0
    try clear hcz20_1
    try clear hcz20_2
    try clear hcz20_3
    try clear hcz20_4
    try clear hcz20_5
    try clear hcz25_0
    try clear hcz25_1
    try clear hcz25_2
    try clear hcz25_3
    try clear hcz25_4
    try clear hcz25_5
    try clear hcz28_0
    try clear hcz28_1
    try clear hcz28_2
    try clear hcz28_3
    try clear hcz28_4
    try clear hcz28_5
    try clear hcz32_0
    try clear hcz32_1
    try clear hcz32_2
    try clear hcz32_3
    try clear hcz32_4
    try clear hcz32_5
    try clear hcz35_0
    try clear hcz35_1
    try clear hcz35_2
    try clear hcz35_3
    try clear hcz35_4
    try clear hcz35_5
    try clear hcz38_0
    try clear hcz38_1
    try clear hcz38_2
    try clear hcz38_3
    try clear hcz38_4
    try clear hcz38_5
    try clear hcz41_0
    try clear hcz41_1
    try clear hcz41_2
    try clear hcz41_3
    try clear hcz41_4
    try clear hcz41_5
    try clear hfz15_0
    try clear hfz15_1
    try clear hfz15_2
    try clear hfz15_3
    try clear hfz15_4
    try clear hfz15_5
    try clear hfz20_0
    try clear hfz20_1
    try clear hfz20_2
    try clear hfz20_3
    try clear hfz20_4
    try clear hfz20_5
    try clear hfz25_0
    try clear hfz25_1
    try clear hfz25_2
    try clear hfz25_3
    try clear hfz25_4
    try clear hfz25_5
    try clear hfz28_0
    try clear hfz28_1
    try clear hfz28_2
    try clear hfz28_3
    try clear hfz28_4
    try clear hfz28_5
    try clear hfz32_0
    try clear hfz32_1
    try clear hfz32_2
    try clear hfz32_3
    try clear hfz32_4
    try clear hfz32_5
    try clear hfz35_0
    try clear hfz35_1
    try clear hfz35_2
    try clear hfz35_3
    try clear hfz35_4
    try clear hfz35_5
    try clear hfz38_0
    try clear hfz38_1
    try clear hfz38_2
    try clear hfz38_3
    try clear hfz38_4
    try clear hfz38_5
    try clear hfz41_0
    try clear hfz41_1
    try clear hfz41_2
    try clear hfz41_3
    try clear hfz41_4
    try clear hfz41_5
    obtain ⟨kq, x47_4, rfl, HA, HJ4, BK149, BK150, HB⟩ := hcut
    cases kq with
    | zero => exact absurd HA.out (by simp [watchmanref06_Do.j0])
    | succ kj4 =>
      have H := HA.out
      clear HA
      simp only [watchmanref06_Do.j0] at H
      by_cases c43 : x47_4 = true
      · subst c43
        have H1 : (some (0, 0, 0, 0, 0, 0, 1)) = some (r1, r2, r3, r4, r5, r6, r7) := by rw [if_pos rfl] at H; exact H
        clear H
        have H := H1
        clear H1
        simp only [Option.some.injEq, Prod.mk.injEq] at H
        obtain ⟨rfl, rfl, rfl, rfl, rfl, rfl, rfl⟩ := H
        have hnb44 := NB150_149.out
        have hnc44 := NB149_150.out
        have hcz45_0 : wc.cell? ⟨gb150, 0, none⟩ = some (.int .i64 0) := (blk_cell BK150.out 0).trans rfl
        have hcz45_1 : wc.cell? ⟨gb150, 1, none⟩ = some (.int .i64 0) := (blk_cell BK150.out 1).trans rfl
        have hcz45_2 : wc.cell? ⟨gb150, 2, none⟩ = some (.int .i64 0) := (blk_cell BK150.out 2).trans rfl
        have hcz45_3 : wc.cell? ⟨gb150, 3, none⟩ = some (.int .i64 0) := (blk_cell BK150.out 3).trans rfl
        have hcz45_4 : wc.cell? ⟨gb150, 4, none⟩ = some (.int .i64 0) := (blk_cell BK150.out 4).trans rfl
        have hcz45_5 : wc.cell? ⟨gb150, 5, none⟩ = some (.int .i64 0) := (blk_cell BK150.out 5).trans rfl
        have hfz45_0 := blk_frozen BK150.out 0
        have hfz45_1 := blk_frozen BK150.out 1
        have hfz45_2 := blk_frozen BK150.out 2
        have hfz45_3 := blk_frozen BK150.out 3
        have hfz45_4 := blk_frozen BK150.out 4
        have hfz45_5 := blk_frozen BK150.out 5
        go_wp2
        refine bodyPost_ret (results_ct rfl _ _ gb150 25 #[.int .i64 0, .int .i64 0, .int .i64 0, .int .i64 0, .int .i64 0, .int .i64 0] (0, 0) _ rfl (by (with_reducible repeat (first | refine blk_drewN ?_ _ | refine blk_drew ?_ | refine blk_alloc ?_ _)); refine blk_put (cs := #[.int .i64 0, .int .i64 0, .int .i64 0, .int .i64 0, .int .i64 0, .int .i64 0]) ?_ 5 _ rfl; (with_reducible repeat (first | refine blk_drewN ?_ _ | refine blk_drew ?_ | refine blk_alloc ?_ _)); refine blk_put (cs := #[.int .i64 0, .int .i64 0, .int .i64 0, .int .i64 0, .int .i64 0, .int .i64 0]) ?_ 4 _ rfl; (with_reducible repeat (first | refine blk_drewN ?_ _ | refine blk_drew ?_ | refine blk_alloc ?_ _)); refine blk_put (cs := #[.int .i64 0, .int .i64 0, .int .i64 0, .int .i64 0, .int .i64 0, .int .i64 0]) ?_ 3 _ rfl; (with_reducible repeat (first | refine blk_drewN ?_ _ | refine blk_drew ?_ | refine blk_alloc ?_ _)); refine blk_put (cs := #[.int .i64 0, .int .i64 0, .int .i64 0, .int .i64 0, .int .i64 0, .int .i64 0]) ?_ 2 _ rfl; (with_reducible repeat (first | refine blk_drewN ?_ _ | refine blk_drew ?_ | refine blk_alloc ?_ _)); refine blk_put (cs := #[.int .i64 0, .int .i64 0, .int .i64 0, .int .i64 0, .int .i64 0, .int .i64 0]) ?_ 1 _ rfl; (with_reducible repeat (first | refine blk_drewN ?_ _ | refine blk_drew ?_ | refine blk_alloc ?_ _)); refine blk_put (cs := #[.int .i64 0, .int .i64 0, .int .i64 0, .int .i64 0, .int .i64 0, .int .i64 0]) ?_ 0 _ rfl; (with_reducible repeat (first | refine blk_drewN ?_ _ | refine blk_drew ?_ | refine blk_alloc ?_ _)); exact BK150.out) Try.underlying25 rfl (by kernel_rfl)) rfl ?_
        exact ⟨by first | rfl | (simp [errW_none, errW_some] <;> rfl) | (simp [*, errW_none, errW_some] <;> rfl), by repeat (first | (with_reducible first | exact HB.out | apply below_alloc | apply pw_below_drewN | apply below_drew1 | refine below_set ?_ GE149.out | refine below_set ?_ GE150.out) | exact HB.out)⟩
      · replace c43 := Bool.eq_false_iff.mpr c43
        subst c43
        have H1 : (if a2 < a0_4 then (some (0, 0, 0, 0, 0, 0, 62)) else ((watchmanref05_Next.f kj4 a0_2 a1).bind fun bt153 => (if bt153.2 = true then (if a1 = 2 then (if a2 < a0_5 then (some (0, 0, 0, 0, 0, 0, 61)) else ((watchmanref06_turn.f kj4 a0_0 a0_1 a0_2 a0_3 a0_4 a0_5 a1 a2 a3).bind fun bt155 => (some (bt155.1, bt155.2.1, bt155.2.2.1, bt155.2.2.2.1, bt155.2.2.2.2.1, bt155.2.2.2.2.2, 0)))) else (if a1 = 6 then (if a2 < a0_5 then (some (0, 0, 0, 0, 0, 0, 61)) else ((watchmanref06_turn.f kj4 a0_0 a0_1 a0_2 a0_3 a0_4 a0_5 a1 a2 a3).bind fun bt161 => (some (bt161.1, bt161.2.1, bt161.2.2.1, bt161.2.2.2.1, bt161.2.2.2.2.1, bt161.2.2.2.2.2, 0)))) else ((watchmanref06_turn.f kj4 a0_0 a0_1 a0_2 a0_3 a0_4 a0_5 a1 a2 a3).bind fun bt167 => (some (bt167.1, bt167.2.1, bt167.2.2.1, bt167.2.2.2.1, bt167.2.2.2.2.1, bt167.2.2.2.2.2, 0))))) else (some (0, 0, 0, 0, 0, 0, 60))))) = some (r1, r2, r3, r4, r5, r6, r7) := by rw [if_neg (show ¬ (false = true) by decide)] at H; exact H
        clear H
        have H := H1
        clear H1
        by_cases c46 : a2 < a0_4
        · rw [if_pos c46] at H
          have c46b0 : decide (a2 < a0_4) = true := decide_eq_true c46
          clear c46
          simp only [Option.some.injEq, Prod.mk.injEq] at H
          obtain ⟨rfl, rfl, rfl, rfl, rfl, rfl, rfl⟩ := H
          have hnb47 := NB149_150.out
          have hnc47 := NB150_149.out
          have hcz48_0 : wc.cell? ⟨gb149, 0, none⟩ = some (.int .i64 a0_0) := (blk_cell BK149.out 0).trans rfl
          have hcz48_1 : wc.cell? ⟨gb149, 1, none⟩ = some (.int .i64 a0_1) := (blk_cell BK149.out 1).trans rfl
          have hcz48_2 : wc.cell? ⟨gb149, 2, none⟩ = some (.int .i64 a0_2) := (blk_cell BK149.out 2).trans rfl
          have hcz48_3 : wc.cell? ⟨gb149, 3, none⟩ = some (.int .i64 a0_3) := (blk_cell BK149.out 3).trans rfl
          have hcz48_4 : wc.cell? ⟨gb149, 4, none⟩ = some (.int .i64 a0_4) := (blk_cell BK149.out 4).trans rfl
          have hcz48_5 : wc.cell? ⟨gb149, 5, none⟩ = some (.int .i64 a0_5) := (blk_cell BK149.out 5).trans rfl
          have hfz48_0 := blk_frozen BK149.out 0
          have hfz48_1 := blk_frozen BK149.out 1
          have hfz48_2 := blk_frozen BK149.out 2
          have hfz48_3 := blk_frozen BK149.out 3
          have hfz48_4 := blk_frozen BK149.out 4
          have hfz48_5 := blk_frozen BK149.out 5
          have hcz49_0 : wc.cell? ⟨gb150, 0, none⟩ = some (.int .i64 0) := (blk_cell BK150.out 0).trans rfl
          have hcz49_1 : wc.cell? ⟨gb150, 1, none⟩ = some (.int .i64 0) := (blk_cell BK150.out 1).trans rfl
          have hcz49_2 : wc.cell? ⟨gb150, 2, none⟩ = some (.int .i64 0) := (blk_cell BK150.out 2).trans rfl
          have hcz49_3 : wc.cell? ⟨gb150, 3, none⟩ = some (.int .i64 0) := (blk_cell BK150.out 3).trans rfl
          have hcz49_4 : wc.cell? ⟨gb150, 4, none⟩ = some (.int .i64 0) := (blk_cell BK150.out 4).trans rfl
          have hcz49_5 : wc.cell? ⟨gb150, 5, none⟩ = some (.int .i64 0) := (blk_cell BK150.out 5).trans rfl
          have hfz49_0 := blk_frozen BK150.out 0
          have hfz49_1 := blk_frozen BK150.out 1
          have hfz49_2 := blk_frozen BK150.out 2
          have hfz49_3 := blk_frozen BK150.out 3
          have hfz49_4 := blk_frozen BK150.out 4
          have hfz49_5 := blk_frozen BK150.out 5
          go_wp2
          refine bodyPost_ret (results_ct rfl _ _ gb150 25 #[.int .i64 0, .int .i64 0, .int .i64 0, .int .i64 0, .int .i64 0, .int .i64 0] (0, 0) _ rfl (by (with_reducible repeat (first | refine blk_drewN ?_ _ | refine blk_drew ?_ | refine blk_alloc ?_ _)); refine blk_put (cs := #[.int .i64 0, .int .i64 0, .int .i64 0, .int .i64 0, .int .i64 0, .int .i64 0]) ?_ 5 _ rfl; (with_reducible repeat (first | refine blk_drewN ?_ _ | refine blk_drew ?_ | refine blk_alloc ?_ _)); refine blk_put (cs := #[.int .i64 0, .int .i64 0, .int .i64 0, .int .i64 0, .int .i64 0, .int .i64 0]) ?_ 4 _ rfl; (with_reducible repeat (first | refine blk_drewN ?_ _ | refine blk_drew ?_ | refine blk_alloc ?_ _)); refine blk_put (cs := #[.int .i64 0, .int .i64 0, .int .i64 0, .int .i64 0, .int .i64 0, .int .i64 0]) ?_ 3 _ rfl; (with_reducible repeat (first | refine blk_drewN ?_ _ | refine blk_drew ?_ | refine blk_alloc ?_ _)); refine blk_put (cs := #[.int .i64 0, .int .i64 0, .int .i64 0, .int .i64 0, .int .i64 0, .int .i64 0]) ?_ 2 _ rfl; (with_reducible repeat (first | refine blk_drewN ?_ _ | refine blk_drew ?_ | refine blk_alloc ?_ _)); refine blk_put (cs := #[.int .i64 0, .int .i64 0, .int .i64 0, .int .i64 0, .int .i64 0, .int .i64 0]) ?_ 1 _ rfl; (with_reducible repeat (first | refine blk_drewN ?_ _ | refine blk_drew ?_ | refine blk_alloc ?_ _)); refine blk_put (cs := #[.int .i64 0, .int .i64 0, .int .i64 0, .int .i64 0, .int .i64 0, .int .i64 0]) ?_ 0 _ rfl; (with_reducible repeat (first | refine blk_drewN ?_ _ | refine blk_drew ?_ | refine blk_alloc ?_ _)); exact BK150.out) Try.underlying25 rfl (by kernel_rfl)) rfl ?_
          exact ⟨by first | rfl | (simp [errW_none, errW_some] <;> rfl) | (simp [*, errW_none, errW_some] <;> rfl), by repeat (first | (with_reducible first | exact HB.out | apply below_alloc | apply pw_below_drewN | apply below_drew1 | refine below_set ?_ GE149.out | refine below_set ?_ GE150.out) | exact HB.out)⟩
        · rw [if_neg c46] at H
          have c46b0 : decide (a2 < a0_4) = false := decide_eq_false c46
          clear c46
          replace H := Option.bind_eq_some_iff.mp H
          obtain ⟨⟨t153, t154⟩, A500, H⟩ := H
          replace H : (if t154 = true then (if a1 = 2 then (if a2 < a0_5 then (some (0, 0, 0, 0, 0, 0, 61)) else ((watchmanref06_turn.f kj4 a0_0 a0_1 a0_2 a0_3 a0_4 a0_5 a1 a2 a3).bind fun bt155 => (some (bt155.1, bt155.2.1, bt155.2.2.1, bt155.2.2.2.1, bt155.2.2.2.2.1, bt155.2.2.2.2.2, 0)))) else (if a1 = 6 then (if a2 < a0_5 then (some (0, 0, 0, 0, 0, 0, 61)) else ((watchmanref06_turn.f kj4 a0_0 a0_1 a0_2 a0_3 a0_4 a0_5 a1 a2 a3).bind fun bt161 => (some (bt161.1, bt161.2.1, bt161.2.2.1, bt161.2.2.2.1, bt161.2.2.2.2.1, bt161.2.2.2.2.2, 0)))) else ((watchmanref06_turn.f kj4 a0_0 a0_1 a0_2 a0_3 a0_4 a0_5 a1 a2 a3).bind fun bt167 => (some (bt167.1, bt167.2.1, bt167.2.2.1, bt167.2.2.2.1, bt167.2.2.2.2.1, bt167.2.2.2.2.2, 0))))) else (some (0, 0, 0, 0, 0, 0, 60))) = some (r1, r2, r3, r4, r5, r6, r7) := H
          have A50 := Aside0.mk A500
          clear A500
          by_cases c51 : t154 = true
          · subst c51
            have H1 : (if a1 = 2 then (if a2 < a0_5 then (some (0, 0, 0, 0, 0, 0, 61)) else ((watchmanref06_turn.f kj4 a0_0 a0_1 a0_2 a0_3 a0_4 a0_5 a1 a2 a3).bind fun bt155 => (some (bt155.1, bt155.2.1, bt155.2.2.1, bt155.2.2.2.1, bt155.2.2.2.2.1, bt155.2.2.2.2.2, 0)))) else (if a1 = 6 then (if a2 < a0_5 then (some (0, 0, 0, 0, 0, 0, 61)) else ((watchmanref06_turn.f kj4 a0_0 a0_1 a0_2 a0_3 a0_4 a0_5 a1 a2 a3).bind fun bt161 => (some (bt161.1, bt161.2.1, bt161.2.2.1, bt161.2.2.2.1, bt161.2.2.2.2.1, bt161.2.2.2.2.2, 0)))) else ((watchmanref06_turn.f kj4 a0_0 a0_1 a0_2 a0_3 a0_4 a0_5 a1 a2 a3).bind fun bt167 => (some (bt167.1, bt167.2.1, bt167.2.2.1, bt167.2.2.2.1, bt167.2.2.2.2.1, bt167.2.2.2.2.2, 0))))) = some (r1, r2, r3, r4, r5, r6, r7) := by rw [if_pos rfl] at H; exact H
            clear H
            have H := H1
            clear H1
            by_cases c52 : a1 = 2
            · rw [if_pos c52] at H
              have c52b0 : (a1 == 2) = true := beq_iff_eq.mpr c52
              have c52b1 : (a1 != 2) = false := bne_eq_false_iff_eq.mpr c52
              clear c52
              by_cases c53 : a2 < a0_5
              · rw [if_pos c53] at H
                have c53b0 : decide (a2 < a0_5) = true := decide_eq_true c53
                clear c53
                simp only [Option.some.injEq, Prod.mk.injEq] at H
                obtain ⟨rfl, rfl, rfl, rfl, rfl, rfl, rfl⟩ := H
                have hnb54 := NB149_150.out
                have hnc54 := NB150_149.out
                have hcz55_0 : wc.cell? ⟨gb149, 0, none⟩ = some (.int .i64 a0_0) := (blk_cell BK149.out 0).trans rfl
                have hcz55_1 : wc.cell? ⟨gb149, 1, none⟩ = some (.int .i64 a0_1) := (blk_cell BK149.out 1).trans rfl
                have hcz55_2 : wc.cell? ⟨gb149, 2, none⟩ = some (.int .i64 a0_2) := (blk_cell BK149.out 2).trans rfl
                have hcz55_3 : wc.cell? ⟨gb149, 3, none⟩ = some (.int .i64 a0_3) := (blk_cell BK149.out 3).trans rfl
                have hcz55_4 : wc.cell? ⟨gb149, 4, none⟩ = some (.int .i64 a0_4) := (blk_cell BK149.out 4).trans rfl
                have hcz55_5 : wc.cell? ⟨gb149, 5, none⟩ = some (.int .i64 a0_5) := (blk_cell BK149.out 5).trans rfl
                have hfz55_0 := blk_frozen BK149.out 0
                have hfz55_1 := blk_frozen BK149.out 1
                have hfz55_2 := blk_frozen BK149.out 2
                have hfz55_3 := blk_frozen BK149.out 3
                have hfz55_4 := blk_frozen BK149.out 4
                have hfz55_5 := blk_frozen BK149.out 5
                go_wp2_with (first | ((with_reducible refine gate_callee (f := 29) rfl ?_); refine goesL_ (some 58) rfl rfl Try.func29 (by kernel_rfl) rfl #[.int .i64 a0_2, .int .i64 a1] rfl (by (try simp only [List.map_toArray, List.map_cons, List.map_nil]); first | done | rfl | (simp only [List.length_drop, List.length_take]; rfl)) ?_; (with_reducible refine (watchmanref05_Next.calls kj4 a0_2 a1 t153 true _ A50.out).mono ?_); rintro e w56 ⟨rfl, hb⟩; refine ⟨_, rfl, ?_⟩; have n0_ := Aside0.mk (blk_below (g := gb149) (o := .cells #[.int .i64 a0_0, .int .i64 a0_1, .int .i64 a0_2, .int .i64 a0_3, .int .i64 a0_4, .int .i64 a0_5] 25 (0, 0)) (by (with_reducible repeat (first | refine blk_drewN ?_ _ | refine blk_drew ?_ | refine blk_alloc ?_ _)); exact BK149.out) hb); have n1_ := Aside0.mk (blk_below (g := gb150) (o := .cells #[.int .i64 0, .int .i64 0, .int .i64 0, .int .i64 0, .int .i64 0, .int .i64 0] 25 (0, 0)) (by (with_reducible repeat (first | refine blk_drewN ?_ _ | refine blk_drew ?_ | refine blk_alloc ?_ _)); exact BK150.out) hb); have n2_ := Aside0.mk (below_step (by repeat (first | (with_reducible first | exact HB.out | apply below_alloc | apply pw_below_drewN | apply below_drew1 | refine below_set ?_ GE149.out | refine below_set ?_ GE150.out) | exact HB.out)) hb); clear BK149; clear BK150; clear HB; have BK149 := n0_; have BK150 := n1_; have HB := n2_; clear n0_ n1_ n2_; (try clear hb); (try clear hb2); (try clear hk); (try clear hi); have hcz57_0 : w56.cell? ⟨gb149, 0, none⟩ = some (.int .i64 a0_0) := (blk_cell BK149.out 0).trans rfl; have hcz57_1 : w56.cell? ⟨gb149, 1, none⟩ = some (.int .i64 a0_1) := (blk_cell BK149.out 1).trans rfl; have hcz57_2 : w56.cell? ⟨gb149, 2, none⟩ = some (.int .i64 a0_2) := (blk_cell BK149.out 2).trans rfl; have hcz57_3 : w56.cell? ⟨gb149, 3, none⟩ = some (.int .i64 a0_3) := (blk_cell BK149.out 3).trans rfl; have hcz57_4 : w56.cell? ⟨gb149, 4, none⟩ = some (.int .i64 a0_4) := (blk_cell BK149.out 4).trans rfl; have hcz57_5 : w56.cell? ⟨gb149, 5, none⟩ = some (.int .i64 a0_5) := (blk_cell BK149.out 5).trans rfl; have hfz57_0 := blk_frozen BK149.out 0; have hfz57_1 := blk_frozen BK149.out 1; have hfz57_2 := blk_frozen BK149.out 2; have hfz57_3 := blk_frozen BK149.out 3; have hfz57_4 := blk_frozen BK149.out 4; have hfz57_5 := blk_frozen BK149.out 5; have hcz58_0 : w56.cell? ⟨gb150, 0, none⟩ = some (.int .i64 0) := (blk_cell BK150.out 0).trans rfl; have hcz58_1 : w56.cell? ⟨gb150, 1, none⟩ = some (.int .i64 0) := (blk_cell BK150.out 1).trans rfl; have hcz58_2 : w56.cell? ⟨gb150, 2, none⟩ = some (.int .i64 0) := (blk_cell BK150.out 2).trans rfl; have hcz58_3 : w56.cell? ⟨gb150, 3, none⟩ = some (.int .i64 0) := (blk_cell BK150.out 3).trans rfl; have hcz58_4 : w56.cell? ⟨gb150, 4, none⟩ = some (.int .i64 0) := (blk_cell BK150.out 4).trans rfl; have hcz58_5 : w56.cell? ⟨gb150, 5, none⟩ = some (.int .i64 0) := (blk_cell BK150.out 5).trans rfl; have hfz58_0 := blk_frozen BK150.out 0; have hfz58_1 := blk_frozen BK150.out 1; have hfz58_2 := blk_frozen BK150.out 2; have hfz58_3 := blk_frozen BK150.out 3; have hfz58_4 := blk_frozen BK150.out 4; have hfz58_5 := blk_frozen BK150.out 5))
                refine bodyPost_ret (results_ct rfl _ _ gb150 25 #[.int .i64 0, .int .i64 0, .int .i64 0, .int .i64 0, .int .i64 0, .int .i64 0] (0, 0) _ rfl (by (with_reducible repeat (first | refine blk_drewN ?_ _ | refine blk_drew ?_ | refine blk_alloc ?_ _)); refine blk_put (cs := #[.int .i64 0, .int .i64 0, .int .i64 0, .int .i64 0, .int .i64 0, .int .i64 0]) ?_ 5 _ rfl; (with_reducible repeat (first | refine blk_drewN ?_ _ | refine blk_drew ?_ | refine blk_alloc ?_ _)); refine blk_put (cs := #[.int .i64 0, .int .i64 0, .int .i64 0, .int .i64 0, .int .i64 0, .int .i64 0]) ?_ 4 _ rfl; (with_reducible repeat (first | refine blk_drewN ?_ _ | refine blk_drew ?_ | refine blk_alloc ?_ _)); refine blk_put (cs := #[.int .i64 0, .int .i64 0, .int .i64 0, .int .i64 0, .int .i64 0, .int .i64 0]) ?_ 3 _ rfl; (with_reducible repeat (first | refine blk_drewN ?_ _ | refine blk_drew ?_ | refine blk_alloc ?_ _)); refine blk_put (cs := #[.int .i64 0, .int .i64 0, .int .i64 0, .int .i64 0, .int .i64 0, .int .i64 0]) ?_ 2 _ rfl; (with_reducible repeat (first | refine blk_drewN ?_ _ | refine blk_drew ?_ | refine blk_alloc ?_ _)); refine blk_put (cs := #[.int .i64 0, .int .i64 0, .int .i64 0, .int .i64 0, .int .i64 0, .int .i64 0]) ?_ 1 _ rfl; (with_reducible repeat (first | refine blk_drewN ?_ _ | refine blk_drew ?_ | refine blk_alloc ?_ _)); refine blk_put (cs := #[.int .i64 0, .int .i64 0, .int .i64 0, .int .i64 0, .int .i64 0, .int .i64 0]) ?_ 0 _ rfl; (with_reducible repeat (first | refine blk_drewN ?_ _ | refine blk_drew ?_ | refine blk_alloc ?_ _)); exact BK150.out) Try.underlying25 rfl (by kernel_rfl)) rfl ?_
                exact ⟨by first | rfl | (simp [errW_none, errW_some] <;> rfl) | (simp [*, errW_none, errW_some] <;> rfl), by repeat (first | (with_reducible first | exact HB.out | apply below_alloc | apply pw_below_drewN | apply below_drew1 | refine below_set ?_ GE149.out | refine below_set ?_ GE150.out) | exact HB.out)⟩
              · rw [if_neg c53] at H
                have c53b0 : decide (a2 < a0_5) = false := decide_eq_false c53
                clear c53
                replace H := Option.bind_eq_some_iff.mp H
                obtain ⟨⟨t155, t156, t157, t158, t159, t160⟩, A590, H⟩ := H
                replace H : (some (t155, t156, t157, t158, t159, t160, 0)) = some (r1, r2, r3, r4, r5, r6, r7) := H
                have A59 := Aside0.mk A590
                clear A590
                simp only [Option.some.injEq, Prod.mk.injEq] at H
                obtain ⟨rfl, rfl, rfl, rfl, rfl, rfl, rfl⟩ := H
                have hnb60 := NB149_150.out
                have hnc60 := NB150_149.out
                have hcz61_0 : wc.cell? ⟨gb149, 0, none⟩ = some (.int .i64 a0_0) := (blk_cell BK149.out 0).trans rfl
                have hcz61_1 : wc.cell? ⟨gb149, 1, none⟩ = some (.int .i64 a0_1) := (blk_cell BK149.out 1).trans rfl
                have hcz61_2 : wc.cell? ⟨gb149, 2, none⟩ = some (.int .i64 a0_2) := (blk_cell BK149.out 2).trans rfl
                have hcz61_3 : wc.cell? ⟨gb149, 3, none⟩ = some (.int .i64 a0_3) := (blk_cell BK149.out 3).trans rfl
                have hcz61_4 : wc.cell? ⟨gb149, 4, none⟩ = some (.int .i64 a0_4) := (blk_cell BK149.out 4).trans rfl
                have hcz61_5 : wc.cell? ⟨gb149, 5, none⟩ = some (.int .i64 a0_5) := (blk_cell BK149.out 5).trans rfl
                have hfz61_0 := blk_frozen BK149.out 0
                have hfz61_1 := blk_frozen BK149.out 1
                have hfz61_2 := blk_frozen BK149.out 2
                have hfz61_3 := blk_frozen BK149.out 3
                have hfz61_4 := blk_frozen BK149.out 4
                have hfz61_5 := blk_frozen BK149.out 5
                go_wp2_with (first | ((with_reducible refine gate_callee (f := 29) rfl ?_); refine goesL_ (some 58) rfl rfl Try.func29 (by kernel_rfl) rfl #[.int .i64 a0_2, .int .i64 a1] rfl (by (try simp only [List.map_toArray, List.map_cons, List.map_nil]); first | done | rfl | (simp only [List.length_drop, List.length_take]; rfl)) ?_; (with_reducible refine (watchmanref05_Next.calls kj4 a0_2 a1 t153 true _ A50.out).mono ?_); rintro e w62 ⟨rfl, hb⟩; refine ⟨_, rfl, ?_⟩; have n0_ := Aside0.mk (blk_below (g := gb149) (o := .cells #[.int .i64 a0_0, .int .i64 a0_1, .int .i64 a0_2, .int .i64 a0_3, .int .i64 a0_4, .int .i64 a0_5] 25 (0, 0)) (by (with_reducible repeat (first | refine blk_drewN ?_ _ | refine blk_drew ?_ | refine blk_alloc ?_ _)); exact BK149.out) hb); have n1_ := Aside0.mk (blk_below (g := gb150) (o := .cells #[.int .i64 0, .int .i64 0, .int .i64 0, .int .i64 0, .int .i64 0, .int .i64 0] 25 (0, 0)) (by (with_reducible repeat (first | refine blk_drewN ?_ _ | refine blk_drew ?_ | refine blk_alloc ?_ _)); exact BK150.out) hb); have n2_ := Aside0.mk (below_step (by repeat (first | (with_reducible first | exact HB.out | apply below_alloc | apply pw_below_drewN | apply below_drew1 | refine below_set ?_ GE149.out | refine below_set ?_ GE150.out) | exact HB.out)) hb); clear BK149; clear BK150; clear HB; have BK149 := n0_; have BK150 := n1_; have HB := n2_; clear n0_ n1_ n2_; (try clear hb); (try clear hb2); (try clear hk); (try clear hi); have hcz63_0 : w62.cell? ⟨gb149, 0, none⟩ = some (.int .i64 a0_0) := (blk_cell BK149.out 0).trans rfl; have hcz63_1 : w62.cell? ⟨gb149, 1, none⟩ = some (.int .i64 a0_1) := (blk_cell BK149.out 1).trans rfl; have hcz63_2 : w62.cell? ⟨gb149, 2, none⟩ = some (.int .i64 a0_2) := (blk_cell BK149.out 2).trans rfl; have hcz63_3 : w62.cell? ⟨gb149, 3, none⟩ = some (.int .i64 a0_3) := (blk_cell BK149.out 3).trans rfl; have hcz63_4 : w62.cell? ⟨gb149, 4, none⟩ = some (.int .i64 a0_4) := (blk_cell BK149.out 4).trans rfl; have hcz63_5 : w62.cell? ⟨gb149, 5, none⟩ = some (.int .i64 a0_5) := (blk_cell BK149.out 5).trans rfl; have hfz63_0 := blk_frozen BK149.out 0; have hfz63_1 := blk_frozen BK149.out 1; have hfz63_2 := blk_frozen BK149.out 2; have hfz63_3 := blk_frozen BK149.out 3; have hfz63_4 := blk_frozen BK149.out 4; have hfz63_5 := blk_frozen BK149.out 5) | ((with_reducible refine gate_callee (f := 30) rfl ?_); refine goesL_ (some 81) rfl rfl Try.func30 (by kernel_rfl) rfl #[.agg #[.int .i64 a0_0, .int .i64 a0_1, .int .i64 a0_2, .int .i64 a0_3, .int .i64 a0_4, .int .i64 a0_5], .int .i64 a1, .int .i64 a2, .int .i64 a3] rfl (by (try simp only [List.map_toArray, List.map_cons, List.map_nil]); first | done | rfl | (simp only [List.length_drop, List.length_take]; rfl)) ?_; (with_reducible refine (watchmanref06_turn.calls kj4 a0_0 a0_1 a0_2 a0_3 a0_4 a0_5 a1 a2 a3 t155 t156 t157 t158 t159 t160 _ A59.out).mono ?_); rintro e w64 ⟨rfl, hb⟩; refine ⟨_, rfl, ?_⟩; have n0_ := Aside0.mk (blk_below (g := gb149) (o := .cells #[.int .i64 a0_0, .int .i64 a0_1, .int .i64 a0_2, .int .i64 a0_3, .int .i64 a0_4, .int .i64 a0_5] 25 (0, 0)) (by (with_reducible repeat (first | refine blk_drewN ?_ _ | refine blk_drew ?_ | refine blk_alloc ?_ _)); exact BK149.out) hb); have n1_ := Aside0.mk (blk_below (g := gb150) (o := .cells #[.int .i64 0, .int .i64 0, .int .i64 0, .int .i64 0, .int .i64 0, .int .i64 0] 25 (0, 0)) (by (with_reducible repeat (first | refine blk_drewN ?_ _ | refine blk_drew ?_ | refine blk_alloc ?_ _)); exact BK150.out) hb); have n2_ := Aside0.mk (below_step (by repeat (first | (with_reducible first | exact HB.out | apply below_alloc | apply pw_below_drewN | apply below_drew1 | refine below_set ?_ GE149.out | refine below_set ?_ GE150.out) | exact HB.out)) hb); clear BK149; clear BK150; clear HB; have BK149 := n0_; have BK150 := n1_; have HB := n2_; clear n0_ n1_ n2_; (try clear hb); (try clear hb2); (try clear hk); (try clear hi); have hcz65_0 : w64.cell? ⟨gb150, 0, none⟩ = some (.int .i64 0) := (blk_cell BK150.out 0).trans rfl; have hcz65_1 : w64.cell? ⟨gb150, 1, none⟩ = some (.int .i64 0) := (blk_cell BK150.out 1).trans rfl; have hcz65_2 : w64.cell? ⟨gb150, 2, none⟩ = some (.int .i64 0) := (blk_cell BK150.out 2).trans rfl; have hcz65_3 : w64.cell? ⟨gb150, 3, none⟩ = some (.int .i64 0) := (blk_cell BK150.out 3).trans rfl; have hcz65_4 : w64.cell? ⟨gb150, 4, none⟩ = some (.int .i64 0) := (blk_cell BK150.out 4).trans rfl; have hcz65_5 : w64.cell? ⟨gb150, 5, none⟩ = some (.int .i64 0) := (blk_cell BK150.out 5).trans rfl; have hfz65_0 := blk_frozen BK150.out 0; have hfz65_1 := blk_frozen BK150.out 1; have hfz65_2 := blk_frozen BK150.out 2; have hfz65_3 := blk_frozen BK150.out 3; have hfz65_4 := blk_frozen BK150.out 4; have hfz65_5 := blk_frozen BK150.out 5))
                refine bodyPost_ret (results_ct rfl _ _ gb150 25 #[.int .i64 t155, .int .i64 t156, .int .i64 t157, .int .i64 t158, .int .i64 t159, .int .i64 t160] (0, 0) _ rfl (by (with_reducible repeat (first | refine blk_drewN ?_ _ | refine blk_drew ?_ | refine blk_alloc ?_ _)); refine blk_put (cs := #[.int .i64 t155, .int .i64 t156, .int .i64 t157, .int .i64 t158, .int .i64 t159, .int .i64 0]) ?_ 5 _ rfl; (with_reducible repeat (first | refine blk_drewN ?_ _ | refine blk_drew ?_ | refine blk_alloc ?_ _)); refine blk_put (cs := #[.int .i64 t155, .int .i64 t156, .int .i64 t157, .int .i64 t158, .int .i64 0, .int .i64 0]) ?_ 4 _ rfl; (with_reducible repeat (first | refine blk_drewN ?_ _ | refine blk_drew ?_ | refine blk_alloc ?_ _)); refine blk_put (cs := #[.int .i64 t155, .int .i64 t156, .int .i64 t157, .int .i64 0, .int .i64 0, .int .i64 0]) ?_ 3 _ rfl; (with_reducible repeat (first | refine blk_drewN ?_ _ | refine blk_drew ?_ | refine blk_alloc ?_ _)); refine blk_put (cs := #[.int .i64 t155, .int .i64 t156, .int .i64 0, .int .i64 0, .int .i64 0, .int .i64 0]) ?_ 2 _ rfl; (with_reducible repeat (first | refine blk_drewN ?_ _ | refine blk_drew ?_ | refine blk_alloc ?_ _)); refine blk_put (cs := #[.int .i64 t155, .int .i64 0, .int .i64 0, .int .i64 0, .int .i64 0, .int .i64 0]) ?_ 1 _ rfl; (with_reducible repeat (first | refine blk_drewN ?_ _ | refine blk_drew ?_ | refine blk_alloc ?_ _)); refine blk_put (cs := #[.int .i64 0, .int .i64 0, .int .i64 0, .int .i64 0, .int .i64 0, .int .i64 0]) ?_ 0 _ rfl; (with_reducible repeat (first | refine blk_drewN ?_ _ | refine blk_drew ?_ | refine blk_alloc ?_ _)); exact BK150.out) Try.underlying25 rfl (by kernel_rfl)) rfl ?_
                exact ⟨by first | rfl | (simp [errW_none, errW_some] <;> rfl) | (simp [*, errW_none, errW_some] <;> rfl), by repeat (first | (with_reducible first | exact HB.out | apply below_alloc | apply pw_below_drewN | apply below_drew1 | refine below_set ?_ GE149.out | refine below_set ?_ GE150.out) | exact HB.out)⟩
            · rw [if_neg c52] at H
              have c52b0 : (a1 == 2) = false := beq_eq_false_iff_ne.mpr c52
              have c52b1 : (a1 != 2) = true := bne_iff_ne.mpr c52
              by_cases c66 : a1 = 6
              · rw [if_pos c66] at H
                have c66b0 : (a1 == 6) = true := beq_iff_eq.mpr c66
                have c66b1 : (a1 != 6) = false := bne_eq_false_iff_eq.mpr c66
                clear c66
                by_cases c67 : a2 < a0_5
                · rw [if_pos c67] at H
                  have c67b0 : decide (a2 < a0_5) = true := decide_eq_true c67
                  clear c67
                  simp only [Option.some.injEq, Prod.mk.injEq] at H
                  obtain ⟨rfl, rfl, rfl, rfl, rfl, rfl, rfl⟩ := H
                  have hnb68 := NB149_150.out
                  have hnc68 := NB150_149.out
                  have hcz69_0 : wc.cell? ⟨gb149, 0, none⟩ = some (.int .i64 a0_0) := (blk_cell BK149.out 0).trans rfl
                  have hcz69_1 : wc.cell? ⟨gb149, 1, none⟩ = some (.int .i64 a0_1) := (blk_cell BK149.out 1).trans rfl
                  have hcz69_2 : wc.cell? ⟨gb149, 2, none⟩ = some (.int .i64 a0_2) := (blk_cell BK149.out 2).trans rfl
                  have hcz69_3 : wc.cell? ⟨gb149, 3, none⟩ = some (.int .i64 a0_3) := (blk_cell BK149.out 3).trans rfl
                  have hcz69_4 : wc.cell? ⟨gb149, 4, none⟩ = some (.int .i64 a0_4) := (blk_cell BK149.out 4).trans rfl
                  have hcz69_5 : wc.cell? ⟨gb149, 5, none⟩ = some (.int .i64 a0_5) := (blk_cell BK149.out 5).trans rfl
                  have hfz69_0 := blk_frozen BK149.out 0
                  have hfz69_1 := blk_frozen BK149.out 1
                  have hfz69_2 := blk_frozen BK149.out 2
                  have hfz69_3 := blk_frozen BK149.out 3
                  have hfz69_4 := blk_frozen BK149.out 4
                  have hfz69_5 := blk_frozen BK149.out 5
                  go_wp2_with (first | ((with_reducible refine gate_callee (f := 29) rfl ?_); refine goesL_ (some 58) rfl rfl Try.func29 (by kernel_rfl) rfl #[.int .i64 a0_2, .int .i64 a1] rfl (by (try simp only [List.map_toArray, List.map_cons, List.map_nil]); first | done | rfl | (simp only [List.length_drop, List.length_take]; rfl)) ?_; (with_reducible refine (watchmanref05_Next.calls kj4 a0_2 a1 t153 true _ A50.out).mono ?_); rintro e w70 ⟨rfl, hb⟩; refine ⟨_, rfl, ?_⟩; have n0_ := Aside0.mk (blk_below (g := gb149) (o := .cells #[.int .i64 a0_0, .int .i64 a0_1, .int .i64 a0_2, .int .i64 a0_3, .int .i64 a0_4, .int .i64 a0_5] 25 (0, 0)) (by (with_reducible repeat (first | refine blk_drewN ?_ _ | refine blk_drew ?_ | refine blk_alloc ?_ _)); exact BK149.out) hb); have n1_ := Aside0.mk (blk_below (g := gb150) (o := .cells #[.int .i64 0, .int .i64 0, .int .i64 0, .int .i64 0, .int .i64 0, .int .i64 0] 25 (0, 0)) (by (with_reducible repeat (first | refine blk_drewN ?_ _ | refine blk_drew ?_ | refine blk_alloc ?_ _)); exact BK150.out) hb); have n2_ := Aside0.mk (below_step (by repeat (first | (with_reducible first | exact HB.out | apply below_alloc | apply pw_below_drewN | apply below_drew1 | refine below_set ?_ GE149.out | refine below_set ?_ GE150.out) | exact HB.out)) hb); clear BK149; clear BK150; clear HB; have BK149 := n0_; have BK150 := n1_; have HB := n2_; clear n0_ n1_ n2_; (try clear hb); (try clear hb2); (try clear hk); (try clear hi); have hcz71_0 : w70.cell? ⟨gb149, 0, none⟩ = some (.int .i64 a0_0) := (blk_cell BK149.out 0).trans rfl; have hcz71_1 : w70.cell? ⟨gb149, 1, none⟩ = some (.int .i64 a0_1) := (blk_cell BK149.out 1).trans rfl; have hcz71_2 : w70.cell? ⟨gb149, 2, none⟩ = some (.int .i64 a0_2) := (blk_cell BK149.out 2).trans rfl; have hcz71_3 : w70.cell? ⟨gb149, 3, none⟩ = some (.int .i64 a0_3) := (blk_cell BK149.out 3).trans rfl; have hcz71_4 : w70.cell? ⟨gb149, 4, none⟩ = some (.int .i64 a0_4) := (blk_cell BK149.out 4).trans rfl; have hcz71_5 : w70.cell? ⟨gb149, 5, none⟩ = some (.int .i64 a0_5) := (blk_cell BK149.out 5).trans rfl; have hfz71_0 := blk_frozen BK149.out 0; have hfz71_1 := blk_frozen BK149.out 1; have hfz71_2 := blk_frozen BK149.out 2; have hfz71_3 := blk_frozen BK149.out 3; have hfz71_4 := blk_frozen BK149.out 4; have hfz71_5 := blk_frozen BK149.out 5; have hcz72_0 : w70.cell? ⟨gb150, 0, none⟩ = some (.int .i64 0) := (blk_cell BK150.out 0).trans rfl; have hcz72_1 : w70.cell? ⟨gb150, 1, none⟩ = some (.int .i64 0) := (blk_cell BK150.out 1).trans rfl; have hcz72_2 : w70.cell? ⟨gb150, 2, none⟩ = some (.int .i64 0) := (blk_cell BK150.out 2).trans rfl; have hcz72_3 : w70.cell? ⟨gb150, 3, none⟩ = some (.int .i64 0) := (blk_cell BK150.out 3).trans rfl; have hcz72_4 : w70.cell? ⟨gb150, 4, none⟩ = some (.int .i64 0) := (blk_cell BK150.out 4).trans rfl; have hcz72_5 : w70.cell? ⟨gb150, 5, none⟩ = some (.int .i64 0) := (blk_cell BK150.out 5).trans rfl; have hfz72_0 := blk_frozen BK150.out 0; have hfz72_1 := blk_frozen BK150.out 1; have hfz72_2 := blk_frozen BK150.out 2; have hfz72_3 := blk_frozen BK150.out 3; have hfz72_4 := blk_frozen BK150.out 4; have hfz72_5 := blk_frozen BK150.out 5))
                  refine bodyPost_ret (results_ct rfl _ _ gb150 25 #[.int .i64 0, .int .i64 0, .int .i64 0, .int .i64 0, .int .i64 0, .int .i64 0] (0, 0) _ rfl (by (with_reducible repeat (first | refine blk_drewN ?_ _ | refine blk_drew ?_ | refine blk_alloc ?_ _)); refine blk_put (cs := #[.int .i64 0, .int .i64 0, .int .i64 0, .int .i64 0, .int .i64 0, .int .i64 0]) ?_ 5 _ rfl; (with_reducible repeat (first | refine blk_drewN ?_ _ | refine blk_drew ?_ | refine blk_alloc ?_ _)); refine blk_put (cs := #[.int .i64 0, .int .i64 0, .int .i64 0, .int .i64 0, .int .i64 0, .int .i64 0]) ?_ 4 _ rfl; (with_reducible repeat (first | refine blk_drewN ?_ _ | refine blk_drew ?_ | refine blk_alloc ?_ _)); refine blk_put (cs := #[.int .i64 0, .int .i64 0, .int .i64 0, .int .i64 0, .int .i64 0, .int .i64 0]) ?_ 3 _ rfl; (with_reducible repeat (first | refine blk_drewN ?_ _ | refine blk_drew ?_ | refine blk_alloc ?_ _)); refine blk_put (cs := #[.int .i64 0, .int .i64 0, .int .i64 0, .int .i64 0, .int .i64 0, .int .i64 0]) ?_ 2 _ rfl; (with_reducible repeat (first | refine blk_drewN ?_ _ | refine blk_drew ?_ | refine blk_alloc ?_ _)); refine blk_put (cs := #[.int .i64 0, .int .i64 0, .int .i64 0, .int .i64 0, .int .i64 0, .int .i64 0]) ?_ 1 _ rfl; (with_reducible repeat (first | refine blk_drewN ?_ _ | refine blk_drew ?_ | refine blk_alloc ?_ _)); refine blk_put (cs := #[.int .i64 0, .int .i64 0, .int .i64 0, .int .i64 0, .int .i64 0, .int .i64 0]) ?_ 0 _ rfl; (with_reducible repeat (first | refine blk_drewN ?_ _ | refine blk_drew ?_ | refine blk_alloc ?_ _)); exact BK150.out) Try.underlying25 rfl (by kernel_rfl)) rfl ?_
                  exact ⟨by first | rfl | (simp [errW_none, errW_some] <;> rfl) | (simp [*, errW_none, errW_some] <;> rfl), by repeat (first | (with_reducible first | exact HB.out | apply below_alloc | apply pw_below_drewN | apply below_drew1 | refine below_set ?_ GE149.out | refine below_set ?_ GE150.out) | exact HB.out)⟩
                · rw [if_neg c67] at H
                  have c67b0 : decide (a2 < a0_5) = false := decide_eq_false c67
                  clear c67
                  replace H := Option.bind_eq_some_iff.mp H
                  obtain ⟨⟨t161, t162, t163, t164, t165, t166⟩, A730, H⟩ := H
                  replace H : (some (t161, t162, t163, t164, t165, t166, 0)) = some (r1, r2, r3, r4, r5, r6, r7) := H
                  have A73 := Aside0.mk A730
                  clear A730
                  simp only [Option.some.injEq, Prod.mk.injEq] at H
                  obtain ⟨rfl, rfl, rfl, rfl, rfl, rfl, rfl⟩ := H
                  have hnb74 := NB149_150.out
                  have hnc74 := NB150_149.out
                  have hcz75_0 : wc.cell? ⟨gb149, 0, none⟩ = some (.int .i64 a0_0) := (blk_cell BK149.out 0).trans rfl
                  have hcz75_1 : wc.cell? ⟨gb149, 1, none⟩ = some (.int .i64 a0_1) := (blk_cell BK149.out 1).trans rfl
                  have hcz75_2 : wc.cell? ⟨gb149, 2, none⟩ = some (.int .i64 a0_2) := (blk_cell BK149.out 2).trans rfl
                  have hcz75_3 : wc.cell? ⟨gb149, 3, none⟩ = some (.int .i64 a0_3) := (blk_cell BK149.out 3).trans rfl
                  have hcz75_4 : wc.cell? ⟨gb149, 4, none⟩ = some (.int .i64 a0_4) := (blk_cell BK149.out 4).trans rfl
                  have hcz75_5 : wc.cell? ⟨gb149, 5, none⟩ = some (.int .i64 a0_5) := (blk_cell BK149.out 5).trans rfl
                  have hfz75_0 := blk_frozen BK149.out 0
                  have hfz75_1 := blk_frozen BK149.out 1
                  have hfz75_2 := blk_frozen BK149.out 2
                  have hfz75_3 := blk_frozen BK149.out 3
                  have hfz75_4 := blk_frozen BK149.out 4
                  have hfz75_5 := blk_frozen BK149.out 5
                  go_wp2_with (first | ((with_reducible refine gate_callee (f := 29) rfl ?_); refine goesL_ (some 58) rfl rfl Try.func29 (by kernel_rfl) rfl #[.int .i64 a0_2, .int .i64 a1] rfl (by (try simp only [List.map_toArray, List.map_cons, List.map_nil]); first | done | rfl | (simp only [List.length_drop, List.length_take]; rfl)) ?_; (with_reducible refine (watchmanref05_Next.calls kj4 a0_2 a1 t153 true _ A50.out).mono ?_); rintro e w76 ⟨rfl, hb⟩; refine ⟨_, rfl, ?_⟩; have n0_ := Aside0.mk (blk_below (g := gb149) (o := .cells #[.int .i64 a0_0, .int .i64 a0_1, .int .i64 a0_2, .int .i64 a0_3, .int .i64 a0_4, .int .i64 a0_5] 25 (0, 0)) (by (with_reducible repeat (first | refine blk_drewN ?_ _ | refine blk_drew ?_ | refine blk_alloc ?_ _)); exact BK149.out) hb); have n1_ := Aside0.mk (blk_below (g := gb150) (o := .cells #[.int .i64 0, .int .i64 0, .int .i64 0, .int .i64 0, .int .i64 0, .int .i64 0] 25 (0, 0)) (by (with_reducible repeat (first | refine blk_drewN ?_ _ | refine blk_drew ?_ | refine blk_alloc ?_ _)); exact BK150.out) hb); have n2_ := Aside0.mk (below_step (by repeat (first | (with_reducible first | exact HB.out | apply below_alloc | apply pw_below_drewN | apply below_drew1 | refine below_set ?_ GE149.out | refine below_set ?_ GE150.out) | exact HB.out)) hb); clear BK149; clear BK150; clear HB; have BK149 := n0_; have BK150 := n1_; have HB := n2_; clear n0_ n1_ n2_; (try clear hb); (try clear hb2); (try clear hk); (try clear hi); have hcz77_0 : w76.cell? ⟨gb149, 0, none⟩ = some (.int .i64 a0_0) := (blk_cell BK149.out 0).trans rfl; have hcz77_1 : w76.cell? ⟨gb149, 1, none⟩ = some (.int .i64 a0_1) := (blk_cell BK149.out 1).trans rfl; have hcz77_2 : w76.cell? ⟨gb149, 2, none⟩ = some (.int .i64 a0_2) := (blk_cell BK149.out 2).trans rfl; have hcz77_3 : w76.cell? ⟨gb149, 3, none⟩ = some (.int .i64 a0_3) := (blk_cell BK149.out 3).trans rfl; have hcz77_4 : w76.cell? ⟨gb149, 4, none⟩ = some (.int .i64 a0_4) := (blk_cell BK149.out 4).trans rfl; have hcz77_5 : w76.cell? ⟨gb149, 5, none⟩ = some (.int .i64 a0_5) := (blk_cell BK149.out 5).trans rfl; have hfz77_0 := blk_frozen BK149.out 0; have hfz77_1 := blk_frozen BK149.out 1; have hfz77_2 := blk_frozen BK149.out 2; have hfz77_3 := blk_frozen BK149.out 3; have hfz77_4 := blk_frozen BK149.out 4; have hfz77_5 := blk_frozen BK149.out 5) | ((with_reducible refine gate_callee (f := 30) rfl ?_); refine goesL_ (some 81) rfl rfl Try.func30 (by kernel_rfl) rfl #[.agg #[.int .i64 a0_0, .int .i64 a0_1, .int .i64 a0_2, .int .i64 a0_3, .int .i64 a0_4, .int .i64 a0_5], .int .i64 a1, .int .i64 a2, .int .i64 a3] rfl (by (try simp only [List.map_toArray, List.map_cons, List.map_nil]); first | done | rfl | (simp only [List.length_drop, List.length_take]; rfl)) ?_; (with_reducible refine (watchmanref06_turn.calls kj4 a0_0 a0_1 a0_2 a0_3 a0_4 a0_5 a1 a2 a3 t161 t162 t163 t164 t165 t166 _ A73.out).mono ?_); rintro e w78 ⟨rfl, hb⟩; refine ⟨_, rfl, ?_⟩; have n0_ := Aside0.mk (blk_below (g := gb149) (o := .cells #[.int .i64 a0_0, .int .i64 a0_1, .int .i64 a0_2, .int .i64 a0_3, .int .i64 a0_4, .int .i64 a0_5] 25 (0, 0)) (by (with_reducible repeat (first | refine blk_drewN ?_ _ | refine blk_drew ?_ | refine blk_alloc ?_ _)); exact BK149.out) hb); have n1_ := Aside0.mk (blk_below (g := gb150) (o := .cells #[.int .i64 0, .int .i64 0, .int .i64 0, .int .i64 0, .int .i64 0, .int .i64 0] 25 (0, 0)) (by (with_reducible repeat (first | refine blk_drewN ?_ _ | refine blk_drew ?_ | refine blk_alloc ?_ _)); exact BK150.out) hb); have n2_ := Aside0.mk (below_step (by repeat (first | (with_reducible first | exact HB.out | apply below_alloc | apply pw_below_drewN | apply below_drew1 | refine below_set ?_ GE149.out | refine below_set ?_ GE150.out) | exact HB.out)) hb); clear BK149; clear BK150; clear HB; have BK149 := n0_; have BK150 := n1_; have HB := n2_; clear n0_ n1_ n2_; (try clear hb); (try clear hb2); (try clear hk); (try clear hi); have hcz79_0 : w78.cell? ⟨gb150, 0, none⟩ = some (.int .i64 0) := (blk_cell BK150.out 0).trans rfl; have hcz79_1 : w78.cell? ⟨gb150, 1, none⟩ = some (.int .i64 0) := (blk_cell BK150.out 1).trans rfl; have hcz79_2 : w78.cell? ⟨gb150, 2, none⟩ = some (.int .i64 0) := (blk_cell BK150.out 2).trans rfl; have hcz79_3 : w78.cell? ⟨gb150, 3, none⟩ = some (.int .i64 0) := (blk_cell BK150.out 3).trans rfl; have hcz79_4 : w78.cell? ⟨gb150, 4, none⟩ = some (.int .i64 0) := (blk_cell BK150.out 4).trans rfl; have hcz79_5 : w78.cell? ⟨gb150, 5, none⟩ = some (.int .i64 0) := (blk_cell BK150.out 5).trans rfl; have hfz79_0 := blk_frozen BK150.out 0; have hfz79_1 := blk_frozen BK150.out 1; have hfz79_2 := blk_frozen BK150.out 2; have hfz79_3 := blk_frozen BK150.out 3; have hfz79_4 := blk_frozen BK150.out 4; have hfz79_5 := blk_frozen BK150.out 5))
                  refine bodyPost_ret (results_ct rfl _ _ gb150 25 #[.int .i64 t161, .int .i64 t162, .int .i64 t163, .int .i64 t164, .int .i64 t165, .int .i64 t166] (0, 0) _ rfl (by (with_reducible repeat (first | refine blk_drewN ?_ _ | refine blk_drew ?_ | refine blk_alloc ?_ _)); refine blk_put (cs := #[.int .i64 t161, .int .i64 t162, .int .i64 t163, .int .i64 t164, .int .i64 t165, .int .i64 0]) ?_ 5 _ rfl; (with_reducible repeat (first | refine blk_drewN ?_ _ | refine blk_drew ?_ | refine blk_alloc ?_ _)); refine blk_put (cs := #[.int .i64 t161, .int .i64 t162, .int .i64 t163, .int .i64 t164, .int .i64 0, .int .i64 0]) ?_ 4 _ rfl; (with_reducible repeat (first | refine blk_drewN ?_ _ | refine blk_drew ?_ | refine blk_alloc ?_ _)); refine blk_put (cs := #[.int .i64 t161, .int .i64 t162, .int .i64 t163, .int .i64 0, .int .i64 0, .int .i64 0]) ?_ 3 _ rfl; (with_reducible repeat (first | refine blk_drewN ?_ _ | refine blk_drew ?_ | refine blk_alloc ?_ _)); refine blk_put (cs := #[.int .i64 t161, .int .i64 t162, .int .i64 0, .int .i64 0, .int .i64 0, .int .i64 0]) ?_ 2 _ rfl; (with_reducible repeat (first | refine blk_drewN ?_ _ | refine blk_drew ?_ | refine blk_alloc ?_ _)); refine blk_put (cs := #[.int .i64 t161, .int .i64 0, .int .i64 0, .int .i64 0, .int .i64 0, .int .i64 0]) ?_ 1 _ rfl; (with_reducible repeat (first | refine blk_drewN ?_ _ | refine blk_drew ?_ | refine blk_alloc ?_ _)); refine blk_put (cs := #[.int .i64 0, .int .i64 0, .int .i64 0, .int .i64 0, .int .i64 0, .int .i64 0]) ?_ 0 _ rfl; (with_reducible repeat (first | refine blk_drewN ?_ _ | refine blk_drew ?_ | refine blk_alloc ?_ _)); exact BK150.out) Try.underlying25 rfl (by kernel_rfl)) rfl ?_
                  exact ⟨by first | rfl | (simp [errW_none, errW_some] <;> rfl) | (simp [*, errW_none, errW_some] <;> rfl), by repeat (first | (with_reducible first | exact HB.out | apply below_alloc | apply pw_below_drewN | apply below_drew1 | refine below_set ?_ GE149.out | refine below_set ?_ GE150.out) | exact HB.out)⟩
              · rw [if_neg c66] at H
                have c66b0 : (a1 == 6) = false := beq_eq_false_iff_ne.mpr c66
                have c66b1 : (a1 != 6) = true := bne_iff_ne.mpr c66
                replace H := Option.bind_eq_some_iff.mp H
                obtain ⟨⟨t167, t168, t169, t170, t171, t172⟩, A800, H⟩ := H
                replace H : (some (t167, t168, t169, t170, t171, t172, 0)) = some (r1, r2, r3, r4, r5, r6, r7) := H
                have A80 := Aside0.mk A800
                clear A800
                simp only [Option.some.injEq, Prod.mk.injEq] at H
                obtain ⟨rfl, rfl, rfl, rfl, rfl, rfl, rfl⟩ := H
                have hnb81 := NB149_150.out
                have hnc81 := NB150_149.out
                have hcz82_0 : wc.cell? ⟨gb149, 0, none⟩ = some (.int .i64 a0_0) := (blk_cell BK149.out 0).trans rfl
                have hcz82_1 : wc.cell? ⟨gb149, 1, none⟩ = some (.int .i64 a0_1) := (blk_cell BK149.out 1).trans rfl
                have hcz82_2 : wc.cell? ⟨gb149, 2, none⟩ = some (.int .i64 a0_2) := (blk_cell BK149.out 2).trans rfl
                have hcz82_3 : wc.cell? ⟨gb149, 3, none⟩ = some (.int .i64 a0_3) := (blk_cell BK149.out 3).trans rfl
                have hcz82_4 : wc.cell? ⟨gb149, 4, none⟩ = some (.int .i64 a0_4) := (blk_cell BK149.out 4).trans rfl
                have hcz82_5 : wc.cell? ⟨gb149, 5, none⟩ = some (.int .i64 a0_5) := (blk_cell BK149.out 5).trans rfl
                have hfz82_0 := blk_frozen BK149.out 0
                have hfz82_1 := blk_frozen BK149.out 1
                have hfz82_2 := blk_frozen BK149.out 2
                have hfz82_3 := blk_frozen BK149.out 3
                have hfz82_4 := blk_frozen BK149.out 4
                have hfz82_5 := blk_frozen BK149.out 5
                go_wp2_with (first | ((with_reducible refine gate_callee (f := 29) rfl ?_); refine goesL_ (some 58) rfl rfl Try.func29 (by kernel_rfl) rfl #[.int .i64 a0_2, .int .i64 a1] rfl (by (try simp only [List.map_toArray, List.map_cons, List.map_nil]); first | done | rfl | (simp only [List.length_drop, List.length_take]; rfl)) ?_; (with_reducible refine (watchmanref05_Next.calls kj4 a0_2 a1 t153 true _ A50.out).mono ?_); rintro e w83 ⟨rfl, hb⟩; refine ⟨_, rfl, ?_⟩; have n0_ := Aside0.mk (blk_below (g := gb149) (o := .cells #[.int .i64 a0_0, .int .i64 a0_1, .int .i64 a0_2, .int .i64 a0_3, .int .i64 a0_4, .int .i64 a0_5] 25 (0, 0)) (by (with_reducible repeat (first | refine blk_drewN ?_ _ | refine blk_drew ?_ | refine blk_alloc ?_ _)); exact BK149.out) hb); have n1_ := Aside0.mk (blk_below (g := gb150) (o := .cells #[.int .i64 0, .int .i64 0, .int .i64 0, .int .i64 0, .int .i64 0, .int .i64 0] 25 (0, 0)) (by (with_reducible repeat (first | refine blk_drewN ?_ _ | refine blk_drew ?_ | refine blk_alloc ?_ _)); exact BK150.out) hb); have n2_ := Aside0.mk (below_step (by repeat (first | (with_reducible first | exact HB.out | apply below_alloc | apply pw_below_drewN | apply below_drew1 | refine below_set ?_ GE149.out | refine below_set ?_ GE150.out) | exact HB.out)) hb); clear BK149; clear BK150; clear HB; have BK149 := n0_; have BK150 := n1_; have HB := n2_; clear n0_ n1_ n2_; (try clear hb); (try clear hb2); (try clear hk); (try clear hi); have hcz84_0 : w83.cell? ⟨gb149, 0, none⟩ = some (.int .i64 a0_0) := (blk_cell BK149.out 0).trans rfl; have hcz84_1 : w83.cell? ⟨gb149, 1, none⟩ = some (.int .i64 a0_1) := (blk_cell BK149.out 1).trans rfl; have hcz84_2 : w83.cell? ⟨gb149, 2, none⟩ = some (.int .i64 a0_2) := (blk_cell BK149.out 2).trans rfl; have hcz84_3 : w83.cell? ⟨gb149, 3, none⟩ = some (.int .i64 a0_3) := (blk_cell BK149.out 3).trans rfl; have hcz84_4 : w83.cell? ⟨gb149, 4, none⟩ = some (.int .i64 a0_4) := (blk_cell BK149.out 4).trans rfl; have hcz84_5 : w83.cell? ⟨gb149, 5, none⟩ = some (.int .i64 a0_5) := (blk_cell BK149.out 5).trans rfl; have hfz84_0 := blk_frozen BK149.out 0; have hfz84_1 := blk_frozen BK149.out 1; have hfz84_2 := blk_frozen BK149.out 2; have hfz84_3 := blk_frozen BK149.out 3; have hfz84_4 := blk_frozen BK149.out 4; have hfz84_5 := blk_frozen BK149.out 5) | ((with_reducible refine gate_callee (f := 30) rfl ?_); refine goesL_ (some 81) rfl rfl Try.func30 (by kernel_rfl) rfl #[.agg #[.int .i64 a0_0, .int .i64 a0_1, .int .i64 a0_2, .int .i64 a0_3, .int .i64 a0_4, .int .i64 a0_5], .int .i64 a1, .int .i64 a2, .int .i64 a3] rfl (by (try simp only [List.map_toArray, List.map_cons, List.map_nil]); first | done | rfl | (simp only [List.length_drop, List.length_take]; rfl)) ?_; (with_reducible refine (watchmanref06_turn.calls kj4 a0_0 a0_1 a0_2 a0_3 a0_4 a0_5 a1 a2 a3 t167 t168 t169 t170 t171 t172 _ A80.out).mono ?_); rintro e w85 ⟨rfl, hb⟩; refine ⟨_, rfl, ?_⟩; have n0_ := Aside0.mk (blk_below (g := gb149) (o := .cells #[.int .i64 a0_0, .int .i64 a0_1, .int .i64 a0_2, .int .i64 a0_3, .int .i64 a0_4, .int .i64 a0_5] 25 (0, 0)) (by (with_reducible repeat (first | refine blk_drewN ?_ _ | refine blk_drew ?_ | refine blk_alloc ?_ _)); exact BK149.out) hb); have n1_ := Aside0.mk (blk_below (g := gb150) (o := .cells #[.int .i64 0, .int .i64 0, .int .i64 0, .int .i64 0, .int .i64 0, .int .i64 0] 25 (0, 0)) (by (with_reducible repeat (first | refine blk_drewN ?_ _ | refine blk_drew ?_ | refine blk_alloc ?_ _)); exact BK150.out) hb); have n2_ := Aside0.mk (below_step (by repeat (first | (with_reducible first | exact HB.out | apply below_alloc | apply pw_below_drewN | apply below_drew1 | refine below_set ?_ GE149.out | refine below_set ?_ GE150.out) | exact HB.out)) hb); clear BK149; clear BK150; clear HB; have BK149 := n0_; have BK150 := n1_; have HB := n2_; clear n0_ n1_ n2_; (try clear hb); (try clear hb2); (try clear hk); (try clear hi); have hcz86_0 : w85.cell? ⟨gb150, 0, none⟩ = some (.int .i64 0) := (blk_cell BK150.out 0).trans rfl; have hcz86_1 : w85.cell? ⟨gb150, 1, none⟩ = some (.int .i64 0) := (blk_cell BK150.out 1).trans rfl; have hcz86_2 : w85.cell? ⟨gb150, 2, none⟩ = some (.int .i64 0) := (blk_cell BK150.out 2).trans rfl; have hcz86_3 : w85.cell? ⟨gb150, 3, none⟩ = some (.int .i64 0) := (blk_cell BK150.out 3).trans rfl; have hcz86_4 : w85.cell? ⟨gb150, 4, none⟩ = some (.int .i64 0) := (blk_cell BK150.out 4).trans rfl; have hcz86_5 : w85.cell? ⟨gb150, 5, none⟩ = some (.int .i64 0) := (blk_cell BK150.out 5).trans rfl; have hfz86_0 := blk_frozen BK150.out 0; have hfz86_1 := blk_frozen BK150.out 1; have hfz86_2 := blk_frozen BK150.out 2; have hfz86_3 := blk_frozen BK150.out 3; have hfz86_4 := blk_frozen BK150.out 4; have hfz86_5 := blk_frozen BK150.out 5))
                refine bodyPost_ret (results_ct rfl _ _ gb150 25 #[.int .i64 t167, .int .i64 t168, .int .i64 t169, .int .i64 t170, .int .i64 t171, .int .i64 t172] (0, 0) _ rfl (by (with_reducible repeat (first | refine blk_drewN ?_ _ | refine blk_drew ?_ | refine blk_alloc ?_ _)); refine blk_put (cs := #[.int .i64 t167, .int .i64 t168, .int .i64 t169, .int .i64 t170, .int .i64 t171, .int .i64 0]) ?_ 5 _ rfl; (with_reducible repeat (first | refine blk_drewN ?_ _ | refine blk_drew ?_ | refine blk_alloc ?_ _)); refine blk_put (cs := #[.int .i64 t167, .int .i64 t168, .int .i64 t169, .int .i64 t170, .int .i64 0, .int .i64 0]) ?_ 4 _ rfl; (with_reducible repeat (first | refine blk_drewN ?_ _ | refine blk_drew ?_ | refine blk_alloc ?_ _)); refine blk_put (cs := #[.int .i64 t167, .int .i64 t168, .int .i64 t169, .int .i64 0, .int .i64 0, .int .i64 0]) ?_ 3 _ rfl; (with_reducible repeat (first | refine blk_drewN ?_ _ | refine blk_drew ?_ | refine blk_alloc ?_ _)); refine blk_put (cs := #[.int .i64 t167, .int .i64 t168, .int .i64 0, .int .i64 0, .int .i64 0, .int .i64 0]) ?_ 2 _ rfl; (with_reducible repeat (first | refine blk_drewN ?_ _ | refine blk_drew ?_ | refine blk_alloc ?_ _)); refine blk_put (cs := #[.int .i64 t167, .int .i64 0, .int .i64 0, .int .i64 0, .int .i64 0, .int .i64 0]) ?_ 1 _ rfl; (with_reducible repeat (first | refine blk_drewN ?_ _ | refine blk_drew ?_ | refine blk_alloc ?_ _)); refine blk_put (cs := #[.int .i64 0, .int .i64 0, .int .i64 0, .int .i64 0, .int .i64 0, .int .i64 0]) ?_ 0 _ rfl; (with_reducible repeat (first | refine blk_drewN ?_ _ | refine blk_drew ?_ | refine blk_alloc ?_ _)); exact BK150.out) Try.underlying25 rfl (by kernel_rfl)) rfl ?_
                exact ⟨by first | rfl | (simp [errW_none, errW_some] <;> rfl) | (simp [*, errW_none, errW_some] <;> rfl), by repeat (first | (with_reducible first | exact HB.out | apply below_alloc | apply pw_below_drewN | apply below_drew1 | refine below_set ?_ GE149.out | refine below_set ?_ GE150.out) | exact HB.out)⟩
          · replace c51 := Bool.eq_false_iff.mpr c51
            subst c51
            have H1 : (some (0, 0, 0, 0, 0, 0, 60)) = some (r1, r2, r3, r4, r5, r6, r7) := by rw [if_neg (show ¬ (false = true) by decide)] at H; exact H
            clear H
            have H := H1
            clear H1
            simp only [Option.some.injEq, Prod.mk.injEq] at H
            obtain ⟨rfl, rfl, rfl, rfl, rfl, rfl, rfl⟩ := H
            have hnb87 := NB149_150.out
            have hnc87 := NB150_149.out
            have hcz88_0 : wc.cell? ⟨gb149, 0, none⟩ = some (.int .i64 a0_0) := (blk_cell BK149.out 0).trans rfl
            have hcz88_1 : wc.cell? ⟨gb149, 1, none⟩ = some (.int .i64 a0_1) := (blk_cell BK149.out 1).trans rfl
            have hcz88_2 : wc.cell? ⟨gb149, 2, none⟩ = some (.int .i64 a0_2) := (blk_cell BK149.out 2).trans rfl
            have hcz88_3 : wc.cell? ⟨gb149, 3, none⟩ = some (.int .i64 a0_3) := (blk_cell BK149.out 3).trans rfl
            have hcz88_4 : wc.cell? ⟨gb149, 4, none⟩ = some (.int .i64 a0_4) := (blk_cell BK149.out 4).trans rfl
            have hcz88_5 : wc.cell? ⟨gb149, 5, none⟩ = some (.int .i64 a0_5) := (blk_cell BK149.out 5).trans rfl
            have hfz88_0 := blk_frozen BK149.out 0
            have hfz88_1 := blk_frozen BK149.out 1
            have hfz88_2 := blk_frozen BK149.out 2
            have hfz88_3 := blk_frozen BK149.out 3
            have hfz88_4 := blk_frozen BK149.out 4
            have hfz88_5 := blk_frozen BK149.out 5
            go_wp2_with (first | ((with_reducible refine gate_callee (f := 29) rfl ?_); refine goesL_ (some 58) rfl rfl Try.func29 (by kernel_rfl) rfl #[.int .i64 a0_2, .int .i64 a1] rfl (by (try simp only [List.map_toArray, List.map_cons, List.map_nil]); first | done | rfl | (simp only [List.length_drop, List.length_take]; rfl)) ?_; (with_reducible refine (watchmanref05_Next.calls kj4 a0_2 a1 t153 false _ A50.out).mono ?_); rintro e w89 ⟨rfl, hb⟩; refine ⟨_, rfl, ?_⟩; have n0_ := Aside0.mk (blk_below (g := gb149) (o := .cells #[.int .i64 a0_0, .int .i64 a0_1, .int .i64 a0_2, .int .i64 a0_3, .int .i64 a0_4, .int .i64 a0_5] 25 (0, 0)) (by (with_reducible repeat (first | refine blk_drewN ?_ _ | refine blk_drew ?_ | refine blk_alloc ?_ _)); exact BK149.out) hb); have n1_ := Aside0.mk (blk_below (g := gb150) (o := .cells #[.int .i64 0, .int .i64 0, .int .i64 0, .int .i64 0, .int .i64 0, .int .i64 0] 25 (0, 0)) (by (with_reducible repeat (first | refine blk_drewN ?_ _ | refine blk_drew ?_ | refine blk_alloc ?_ _)); exact BK150.out) hb); have n2_ := Aside0.mk (below_step (by repeat (first | (with_reducible first | exact HB.out | apply below_alloc | apply pw_below_drewN | apply below_drew1 | refine below_set ?_ GE149.out | refine below_set ?_ GE150.out) | exact HB.out)) hb); clear BK149; clear BK150; clear HB; have BK149 := n0_; have BK150 := n1_; have HB := n2_; clear n0_ n1_ n2_; (try clear hb); (try clear hb2); (try clear hk); (try clear hi); have hcz90_0 : w89.cell? ⟨gb150, 0, none⟩ = some (.int .i64 0) := (blk_cell BK150.out 0).trans rfl; have hcz90_1 : w89.cell? ⟨gb150, 1, none⟩ = some (.int .i64 0) := (blk_cell BK150.out 1).trans rfl; have hcz90_2 : w89.cell? ⟨gb150, 2, none⟩ = some (.int .i64 0) := (blk_cell BK150.out 2).trans rfl; have hcz90_3 : w89.cell? ⟨gb150, 3, none⟩ = some (.int .i64 0) := (blk_cell BK150.out 3).trans rfl; have hcz90_4 : w89.cell? ⟨gb150, 4, none⟩ = some (.int .i64 0) := (blk_cell BK150.out 4).trans rfl; have hcz90_5 : w89.cell? ⟨gb150, 5, none⟩ = some (.int .i64 0) := (blk_cell BK150.out 5).trans rfl; have hfz90_0 := blk_frozen BK150.out 0; have hfz90_1 := blk_frozen BK150.out 1; have hfz90_2 := blk_frozen BK150.out 2; have hfz90_3 := blk_frozen BK150.out 3; have hfz90_4 := blk_frozen BK150.out 4; have hfz90_5 := blk_frozen BK150.out 5))
            refine bodyPost_ret (results_ct rfl _ _ gb150 25 #[.int .i64 0, .int .i64 0, .int .i64 0, .int .i64 0, .int .i64 0, .int .i64 0] (0, 0) _ rfl (by (with_reducible repeat (first | refine blk_drewN ?_ _ | refine blk_drew ?_ | refine blk_alloc ?_ _)); refine blk_put (cs := #[.int .i64 0, .int .i64 0, .int .i64 0, .int .i64 0, .int .i64 0, .int .i64 0]) ?_ 5 _ rfl; (with_reducible repeat (first | refine blk_drewN ?_ _ | refine blk_drew ?_ | refine blk_alloc ?_ _)); refine blk_put (cs := #[.int .i64 0, .int .i64 0, .int .i64 0, .int .i64 0, .int .i64 0, .int .i64 0]) ?_ 4 _ rfl; (with_reducible repeat (first | refine blk_drewN ?_ _ | refine blk_drew ?_ | refine blk_alloc ?_ _)); refine blk_put (cs := #[.int .i64 0, .int .i64 0, .int .i64 0, .int .i64 0, .int .i64 0, .int .i64 0]) ?_ 3 _ rfl; (with_reducible repeat (first | refine blk_drewN ?_ _ | refine blk_drew ?_ | refine blk_alloc ?_ _)); refine blk_put (cs := #[.int .i64 0, .int .i64 0, .int .i64 0, .int .i64 0, .int .i64 0, .int .i64 0]) ?_ 2 _ rfl; (with_reducible repeat (first | refine blk_drewN ?_ _ | refine blk_drew ?_ | refine blk_alloc ?_ _)); refine blk_put (cs := #[.int .i64 0, .int .i64 0, .int .i64 0, .int .i64 0, .int .i64 0, .int .i64 0]) ?_ 1 _ rfl; (with_reducible repeat (first | refine blk_drewN ?_ _ | refine blk_drew ?_ | refine blk_alloc ?_ _)); refine blk_put (cs := #[.int .i64 0, .int .i64 0, .int .i64 0, .int .i64 0, .int .i64 0, .int .i64 0]) ?_ 0 _ rfl; (with_reducible repeat (first | refine blk_drewN ?_ _ | refine blk_drew ?_ | refine blk_alloc ?_ _)); exact BK150.out) Try.underlying25 rfl (by kernel_rfl)) rfl ?_
            exact ⟨by first | rfl | (simp [errW_none, errW_some] <;> rfl) | (simp [*, errW_none, errW_some] <;> rfl), by repeat (first | (with_reducible first | exact HB.out | apply below_alloc | apply pw_below_drewN | apply below_drew1 | refine below_set ?_ GE149.out | refine below_set ?_ GE150.out) | exact HB.out)⟩

end Go.Proofs.Ytlleifklioamlaa.F
