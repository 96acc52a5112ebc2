-- Written by a program of this session (xprint.py), out of the translation and of contracts proved by hand.
import Derived.Test.YtkhdpmbjjcmooaaF0
import Derived.Test.YtkhdpmbjjcmooaaF2
namespace Go.Proofs.Ytkhdpmbjjcmooaa.F
open Go.RowKit Go.Proofs.YtkhdpmbjjcmooaaV.PrintWords Go.Proofs.YtkhdpmbjjcmooaaV.PrintLast Go.Proofs.YtkhdpmbjjcmooaaV.PrintMore
attribute [local go_sem] max2_int min2_int max_two min_two max_three min_three max_four min_four   -- for this text's walks alone
set_option linter.unusedVariables false
set_option linter.unusedSimpArgs false

/-! ### session_Is: function 14 -/
def session_Is.l0 : Nat → List (S39) → List (S39) → Int → Int → Option (Bool)
  | 0, _, _, _, _ => none
  | k + 1, x0, x5, x6, x7 => if x7 < x6 then (if 0 ≤ x7 then (if x7 < (x5.length : Int) then ((session_open.f ((rd_T39 x5 x7).f0) ((rd_T39 x5 x7).f1) ((rd_T39 x5 x7).f2) ((rd_T39 x5 x7).f3.f0) ((rd_T39 x5 x7).f3.f1) ((rd_T39 x5 x7).f3.f2)).bind fun bt131 => ((session_client_right.f bt131.1 bt131.2.1 bt131.2.2.1 bt131.2.2.2.1 bt131.2.2.2.2.1 bt131.2.2.2.2.2).bind fun t139 => (if t139 = true then (if x7 > 0 then (if 0 ≤ (wrap64 (x7 - 1)) then (if (wrap64 (x7 - 1)) < (x0.length : Int) then (if ((rd_T39 x0 (wrap64 (x7 - 1))).f0) ≥ ((rd_T39 x5 x7).f0) then (some false) else (session_Is.l0 k x0 x5 x6 (wrap64 (x7 + 1)))) else (none)) else (none)) else (session_Is.l0 k x0 x5 x6 (wrap64 (x7 + 1)))) else (some false)))) else (none)) else (none)) else (some (decide ((x0.length : Int) ≤ 30)))
def session_Is.f (k : Nat) (l0 : List (S39)) : Option (Bool) := session_Is.l0 k l0 l0 (l0.length : Int) 0
theorem session_Is.mono_l : ∀ k, (∀ y0 y1 y2 y3, LeO (session_Is.l0 k y0 y1 y2 y3) (session_Is.l0 (k + 1) y0 y1 y2 y3))
  | 0 => fun _ _ _ _ r h => by simp [session_Is.l0] at h
  | k + 1 => by
    have ih0 := session_Is.mono_l k
    · intro y0 y1 y2 y3
      unfold session_Is.l0
      repeat' first
      | (with_reducible exact ih0 _ _ _ _)
      | (with_reducible exact LeO.refl _)
      | (with_reducible exact LeO.none _)
      | (with_reducible refine LeO.ite ?_ ?_)
      | (with_reducible refine LeO.bind ?_ (fun _ => ?_))
      | exact ih0 _ _ _ _
      | exact LeO.none _
      | refine LeO.ite ?_ ?_
      | refine LeO.bind ?_ (fun _ => ?_)
theorem session_Is.mono : ∀ a0 k, LeO (session_Is.f k a0) (session_Is.f (k + 1) a0) := by
  intro a0 k
  have ih0 := session_Is.mono_l k
  unfold session_Is.f
  repeat' first
      | (with_reducible exact ih0 _ _ _ _)
      | (with_reducible exact LeO.refl _)
      | (with_reducible exact LeO.none _)
      | (with_reducible refine LeO.ite ?_ ?_)
      | (with_reducible refine LeO.bind ?_ (fun _ => ?_))
      | exact ih0 _ _ _ _
      | exact LeO.none _
      | refine LeO.ite ?_ ?_
      | refine LeO.bind ?_ (fun _ => ?_)
def session_Is.T4 : Bool × List (List Nat × List Nat) := (true, [([], []), ([0], [0]), ([1, 1], [1]), ([2], [2]), ([3, 2], [3]), ([4], [4]), ([5, 4], [4, 5]), ([6, 4, 4], [4, 6]), ([7], [7]), ([7], [7]), ([9, 7], [7, 9]), ([8, 10, 7], [7, 8, 10]), ([11, 7], [7, 11]), ([12, 7], [7, 12]), ([7], [7]), ([14, 7], [7, 14]), ([13, 15, 7], [7, 13, 15]), ([7, 16, 4], [4, 7, 16]), ([4, 17], [4, 17])])
def session_Is.B4 : List Nat := [0, 1, 3, 7, 15, 31, 63, 127, 255, 255, 767, 2047, 4095, 8191, 255, 16639, 65535, 131071, 262143]
theorem session_Is.tab4 : rtab .any (opsOf Try.f14 4) = session_Is.T4 := by kernel_rfl
theorem session_Is.bits4 : waitsOk session_Is.T4.2 session_Is.B4 = true := by kernel_rfl
set_option maxHeartbeats 8000000 in
set_option maxRecDepth 100000 in
theorem session_Is.calls (k : Nat) (A0 : Option Addr) (c0 : Nat) (l0 : List (S39)) (r : Bool) (w : World) (hr0 : Kd.C k39 w A0 l0.length l0) (hc0 : l0.length ≤ c0) (h : session_Is.f k l0 = some r) :
    Calls Try.prog 14 #[.slice A0 l0.length c0] w fun e w' => e = .returned (.bool r) ∧ Below w.heap.size w w' := by
  have hu39 := Try.underlying39
  have HR0 := Aside0.mk hr0
  have HC0 := Aside0.mk hc0
  clear hr0 hc0
  have HB := Aside0.mk (Below.refl w.heap.size w)
  have H : (session_Is.l0 k l0 l0 (l0.length : Int) 0) = some r := h
  clear h
  have H' := Aside0.mk H
  clear H
  go_enter Try.func14, Try.ntmps14
  go_wp2
  go_loopg [7] k (fun kq v7 w' => ∃ (x7_1 : Int), v7 = .int .i64 x7_1 ∧ Aside0 (session_Is.l0 kq l0 l0 (l0.length : Int) x7_1 = some r) ∧ Aside0 (kq ≤ k) ∧ Aside0 (Below w.heap.size w w'))
  case atStart => exact ⟨(0), (by first | rfl | (simp; done) | (simp [*]; done)), H', ⟨Nat.le_refl _⟩, ⟨by repeat (first | (with_reducible first | exact HB.out | apply below_alloc | apply pw_below_drewN | apply below_drew1) | exact HB.out)⟩⟩
  case round =>
    clear H'
    try clear c1
    obtain ⟨x7_1, rfl, HA, HK1, HB⟩ := hrel
    cases gk with
    | zero => exact absurd HA.out (by simp [session_Is.l0])
    | succ k1 =>
      have H := HA.out
      clear HA
      simp only [session_Is.l0] at H
      by_cases c2 : x7_1 < (l0.length : Int)
      · rw [if_pos c2] at H
        have c2b0 : decide (x7_1 < (l0.length : Int)) = true := decide_eq_true c2
        clear c2
        by_cases c3 : 0 ≤ x7_1
        · rw [if_pos c3] at H
          have c3b0 : decide (0 ≤ x7_1) = true := decide_eq_true c3
          clear c3
          by_cases c4 : x7_1 < (l0.length : Int)
          · rw [if_pos c4] at H
            have c4b0 : decide (x7_1 < (l0.length : Int)) = true := decide_eq_true c4
            clear c4
            replace H := Option.bind_eq_some_iff.mp H
            obtain ⟨⟨t131, t132, t133, t136, t137, t138⟩, A50, H⟩ := H
            replace H : ((session_client_right.f t131 t132 t133 t136 t137 t138).bind fun t139 => (if t139 = true then (if x7_1 > 0 then (if 0 ≤ (wrap64 (x7_1 - 1)) then (if (wrap64 (x7_1 - 1)) < (l0.length : Int) then (if ((rd_T39 l0 (wrap64 (x7_1 - 1))).f0) ≥ ((rd_T39 l0 x7_1).f0) then (some false) else (session_Is.l0 k1 l0 l0 (l0.length : Int) (wrap64 (x7_1 + 1)))) else (none)) else (none)) else (session_Is.l0 k1 l0 l0 (l0.length : Int) (wrap64 (x7_1 + 1)))) else (some false))) = some r := H
            have A5 := Aside0.mk A50
            clear A50
            replace H := Option.bind_eq_some_iff.mp H
            obtain ⟨t139, A60, H⟩ := H
            replace H : (if t139 = true then (if x7_1 > 0 then (if 0 ≤ (wrap64 (x7_1 - 1)) then (if (wrap64 (x7_1 - 1)) < (l0.length : Int) then (if ((rd_T39 l0 (wrap64 (x7_1 - 1))).f0) ≥ ((rd_T39 l0 x7_1).f0) then (some false) else (session_Is.l0 k1 l0 l0 (l0.length : Int) (wrap64 (x7_1 + 1)))) else (none)) else (none)) else (session_Is.l0 k1 l0 l0 (l0.length : Int) (wrap64 (x7_1 + 1)))) else (some false)) = some r := H
            have A6 := Aside0.mk A60
            clear A60
            by_cases c7 : t139 = true
            · subst c7
              have H1 : (if x7_1 > 0 then (if 0 ≤ (wrap64 (x7_1 - 1)) then (if (wrap64 (x7_1 - 1)) < (l0.length : Int) then (if ((rd_T39 l0 (wrap64 (x7_1 - 1))).f0) ≥ ((rd_T39 l0 x7_1).f0) then (some false) else (session_Is.l0 k1 l0 l0 (l0.length : Int) (wrap64 (x7_1 + 1)))) else (none)) else (none)) else (session_Is.l0 k1 l0 l0 (l0.length : Int) (wrap64 (x7_1 + 1)))) = some r := by rw [if_pos rfl] at H; exact H
              clear H
              have H := H1
              clear H1
              by_cases c8 : x7_1 > 0
              · rw [if_pos c8] at H
                have c8b0 : decide (0 < x7_1) = true := decide_eq_true c8
                clear c8
                obtain ⟨ji9, hji9⟩ : ∃ j_ : Int, (wrap64 (x7_1 - 1)) = j_ := ⟨_, rfl⟩
                replace H : (if 0 ≤ (ji9) then (if (ji9) < (l0.length : Int) then (if ((rd_T39 l0 (ji9)).f0) ≥ ((rd_T39 l0 x7_1).f0) then (some false) else (session_Is.l0 k1 l0 l0 (l0.length : Int) (wrap64 (x7_1 + 1)))) else (none)) else (none)) = some r := by first | (rw [hji9] at H; exact H) | (simp only [hji9] at H ⊢; exact H)
                (try rw [hji9] at A5)
                (try rw [hji9] at A6)
                have hji9w : (IntKind.i64.wrap (x7_1 - 1)) = ji9 := (i64_w _).trans hji9
                by_cases c10 : 0 ≤ (ji9)
                · rw [if_pos c10] at H
                  have c10b0 : decide (0 ≤ (ji9)) = true := decide_eq_true c10
                  clear c10
                  by_cases c11 : (ji9) < (l0.length : Int)
                  · rw [if_pos c11] at H
                    have c11b0 : decide ((ji9) < (l0.length : Int)) = true := decide_eq_true c11
                    clear c11
                    by_cases c12 : ((rd_T39 l0 (ji9)).f0) ≥ ((rd_T39 l0 x7_1).f0)
                    · rw [if_pos c12] at H
                      have c12b0 : decide (((rd_T39 l0 x7_1).f0) ≤ ((rd_T39 l0 (ji9)).f0)) = true := decide_eq_true c12
                      clear c12
                      obtain rfl := Option.some.inj H
                      have p129 : 0 ≤ (x7_1 : Int) := of_decide_eq_true (by first | (with_reducible assumption) | assumption)
                      have q129 : x7_1 < (l0.length : Int) := of_decide_eq_true (by first | (with_reducible assumption) | assumption)
                      obtain ⟨ad129, A129_5, c129_5, e129, hx129_0, hx129_1, hx129_2, hx129_3, hx129_4, hx129_5, hl129_5, hi129_5⟩ := at_T39 HR0.out x7_1 p129 q129
                      cases e129
                      replace hx129_0 := (HB.out.cell (World.block_lt_of_cell? w _ hx129_0)).trans hx129_0
                      replace hx129_1 := (HB.out.cell (World.block_lt_of_cell? w _ hx129_1)).trans hx129_1
                      replace hx129_2 := (HB.out.cell (World.block_lt_of_cell? w _ hx129_2)).trans hx129_2
                      replace hx129_3 := (HB.out.cell (World.block_lt_of_cell? w _ hx129_3)).trans hx129_3
                      replace hx129_4 := (HB.out.cell (World.block_lt_of_cell? w _ hx129_4)).trans hx129_4
                      replace hx129_5 := (HB.out.cell (World.block_lt_of_cell? w _ hx129_5)).trans hx129_5
                      have HR129_5 := Aside0.mk hi129_5
                      have HC129_5 := Aside0.mk hl129_5
                      clear hi129_5 hl129_5
                      replace p129 := eq_true p129
                      replace q129 := eq_true q129
                      try go_wp2_with (first | ((with_reducible refine gate_dst (N := 4) rfl ?_); refine box_event ?hg (N := 4) ?hd (cs := #[.int .i64 0, .int .i64 0, .int .i64 0, .int .i64 0, .int .i64 0, .slice none 0 0]) (t := 39) ?hr ?_; (case hd => rfl); (case hg => rfl); (case hr => first | (go_simp; done) | (go_simp; rfl)); intro gb130 hg w13 hbox hb; have BK130 := Aside0.mk (hbox); have GW130 := Aside0.mk ((by rw [hg]; exact (below_size (by repeat (first | (with_reducible first | exact HB.out | apply below_alloc | apply pw_below_drewN | apply below_drew1) | exact HB.out))) : w.heap.size ≤ gb130)); have GE130 := Aside0.mk ((by rw [hg]; exact (below_size (by repeat (first | (with_reducible first | exact HB.out | apply below_alloc | apply pw_below_drewN | apply below_drew1) | exact HB.out))) : w.heap.size ≤ gb130)); replace HB := Aside0.mk (below_step (by repeat (first | (with_reducible first | exact HB.out | apply below_alloc | apply pw_below_drewN | apply below_drew1) | exact HB.out)) hb); clear hb hbox hg; have hcz14_0 : w13.cell? ⟨gb130, 0, none⟩ = some (.int .i64 0) := (blk_cell BK130.out 0).trans rfl; have hcz14_1 : w13.cell? ⟨gb130, 1, none⟩ = some (.int .i64 0) := (blk_cell BK130.out 1).trans rfl; have hcz14_2 : w13.cell? ⟨gb130, 2, none⟩ = some (.int .i64 0) := (blk_cell BK130.out 2).trans rfl; have hcz14_3 : w13.cell? ⟨gb130, 3, none⟩ = some (.int .i64 0) := (blk_cell BK130.out 3).trans rfl; have hcz14_4 : w13.cell? ⟨gb130, 4, none⟩ = some (.int .i64 0) := (blk_cell BK130.out 4).trans rfl; have hcz14_5 : w13.cell? ⟨gb130, 5, none⟩ = some (.slice none 0 0) := (blk_cell BK130.out 5).trans rfl; have hfz14_0 := blk_frozen BK130.out 0; have hfz14_1 := blk_frozen BK130.out 1; have hfz14_2 := blk_frozen BK130.out 2; have hfz14_3 := blk_frozen BK130.out 3; have hfz14_4 := blk_frozen BK130.out 4; have hfz14_5 := blk_frozen BK130.out 5))
                      have n0_ : Aside0 (((((((w13.setCell ⟨gb130, 0, none⟩ (.int .i64 ((rd_T39 l0 x7_1).f0))).setCell ⟨gb130, 1, none⟩ (.int .i64 ((rd_T39 l0 x7_1).f1))).setCell ⟨gb130, 2, none⟩ (.int .i64 ((rd_T39 l0 x7_1).f2))).setCell ⟨gb130, 3, none⟩ (.int .i64 ((rd_T39 l0 x7_1).f3.f0))).setCell ⟨gb130, 4, none⟩ (.int .i64 ((rd_T39 l0 x7_1).f3.f1))).setCell ⟨gb130, 5, none⟩ (.slice A129_5 ((rd_T39 l0 x7_1).f3.f2).length c129_5)).heap[gb130]? = some (.cells #[.int .i64 ((rd_T39 l0 x7_1).f0), .int .i64 ((rd_T39 l0 x7_1).f1), .int .i64 ((rd_T39 l0 x7_1).f2), .int .i64 ((rd_T39 l0 x7_1).f3.f0), .int .i64 ((rd_T39 l0 x7_1).f3.f1), .slice A129_5 ((rd_T39 l0 x7_1).f3.f2).length c129_5] 39 (0, 0))) := ⟨by (with_reducible repeat (first | refine blk_drewN ?_ _ | refine blk_drew ?_ | refine blk_alloc ?_ _)); refine blk_put (cs := #[.int .i64 ((rd_T39 l0 x7_1).f0), .int .i64 ((rd_T39 l0 x7_1).f1), .int .i64 ((rd_T39 l0 x7_1).f2), .int .i64 ((rd_T39 l0 x7_1).f3.f0), .int .i64 ((rd_T39 l0 x7_1).f3.f1), .slice none 0 0]) ?_ 5 _ rfl; (with_reducible repeat (first | refine blk_drewN ?_ _ | refine blk_drew ?_ | refine blk_alloc ?_ _)); refine blk_put (cs := #[.int .i64 ((rd_T39 l0 x7_1).f0), .int .i64 ((rd_T39 l0 x7_1).f1), .int .i64 ((rd_T39 l0 x7_1).f2), .int .i64 ((rd_T39 l0 x7_1).f3.f0), .int .i64 0, .slice none 0 0]) ?_ 4 _ rfl; (with_reducible repeat (first | refine blk_drewN ?_ _ | refine blk_drew ?_ | refine blk_alloc ?_ _)); refine blk_put (cs := #[.int .i64 ((rd_T39 l0 x7_1).f0), .int .i64 ((rd_T39 l0 x7_1).f1), .int .i64 ((rd_T39 l0 x7_1).f2), .int .i64 0, .int .i64 0, .slice none 0 0]) ?_ 3 _ rfl; (with_reducible repeat (first | refine blk_drewN ?_ _ | refine blk_drew ?_ | refine blk_alloc ?_ _)); refine blk_put (cs := #[.int .i64 ((rd_T39 l0 x7_1).f0), .int .i64 ((rd_T39 l0 x7_1).f1), .int .i64 0, .int .i64 0, .int .i64 0, .slice none 0 0]) ?_ 2 _ rfl; (with_reducible repeat (first | refine blk_drewN ?_ _ | refine blk_drew ?_ | refine blk_alloc ?_ _)); refine blk_put (cs := #[.int .i64 ((rd_T39 l0 x7_1).f0), .int .i64 0, .int .i64 0, .int .i64 0, .int .i64 0, .slice none 0 0]) ?_ 1 _ rfl; (with_reducible repeat (first | refine blk_drewN ?_ _ | refine blk_drew ?_ | refine blk_alloc ?_ _)); refine blk_put (cs := #[.int .i64 0, .int .i64 0, .int .i64 0, .int .i64 0, .int .i64 0, .slice none 0 0]) ?_ 0 _ rfl; (with_reducible repeat (first | refine blk_drewN ?_ _ | refine blk_drew ?_ | refine blk_alloc ?_ _)); exact BK130.out⟩
                      have n1_ : Aside0 (Below w.heap.size w ((((((w13.setCell ⟨gb130, 0, none⟩ (.int .i64 ((rd_T39 l0 x7_1).f0))).setCell ⟨gb130, 1, none⟩ (.int .i64 ((rd_T39 l0 x7_1).f1))).setCell ⟨gb130, 2, none⟩ (.int .i64 ((rd_T39 l0 x7_1).f2))).setCell ⟨gb130, 3, none⟩ (.int .i64 ((rd_T39 l0 x7_1).f3.f0))).setCell ⟨gb130, 4, none⟩ (.int .i64 ((rd_T39 l0 x7_1).f3.f1))).setCell ⟨gb130, 5, none⟩ (.slice A129_5 ((rd_T39 l0 x7_1).f3.f2).length c129_5))) := ⟨by repeat (first | (with_reducible first | exact HB.out | apply below_alloc | apply pw_below_drewN | apply below_drew1 | refine below_set ?_ GE130.out) | exact HB.out)⟩
                      (try clear BK130)
                      (try clear HB)
                      generalize ((((((w13.setCell ⟨gb130, 0, none⟩ (.int .i64 ((rd_T39 l0 x7_1).f0))).setCell ⟨gb130, 1, none⟩ (.int .i64 ((rd_T39 l0 x7_1).f1))).setCell ⟨gb130, 2, none⟩ (.int .i64 ((rd_T39 l0 x7_1).f2))).setCell ⟨gb130, 3, none⟩ (.int .i64 ((rd_T39 l0 x7_1).f3.f0))).setCell ⟨gb130, 4, none⟩ (.int .i64 ((rd_T39 l0 x7_1).f3.f1))).setCell ⟨gb130, 5, none⟩ (.slice A129_5 ((rd_T39 l0 x7_1).f3.f2).length c129_5)) = w15 at n0_ n1_ ⊢
                      have BK130 := n0_
                      have HB := n1_
                      clear n0_ n1_
                      replace BK130 := Aside0.mk (blk_drew BK130.out)
                      replace HB := Aside0.mk (below_drew1 HB.out)
                      have p140 : 0 ≤ ((ji9) : Int) := of_decide_eq_true (by first | (with_reducible assumption) | assumption)
                      have q140 : (ji9) < (l0.length : Int) := of_decide_eq_true (by first | (with_reducible assumption) | assumption)
                      obtain ⟨ad140, A140_5, c140_5, e140, hx140_0, hx140_1, hx140_2, hx140_3, hx140_4, hx140_5, hl140_5, hi140_5⟩ := at_T39 HR0.out (ji9) p140 q140
                      have hw140_5 := hx140_5
                      have hw140_4 := hx140_4
                      have hw140_3 := hx140_3
                      have hw140_2 := hx140_2
                      have hw140_1 := hx140_1
                      have hw140_0 := hx140_0
                      obtain rfl : ad129 = ad140 := (by injection e140)
                      replace hx140_0 := (HB.out.cell (World.block_lt_of_cell? w _ hx140_0)).trans hx140_0
                      replace hx140_1 := (HB.out.cell (World.block_lt_of_cell? w _ hx140_1)).trans hx140_1
                      replace hx140_2 := (HB.out.cell (World.block_lt_of_cell? w _ hx140_2)).trans hx140_2
                      replace hx140_3 := (HB.out.cell (World.block_lt_of_cell? w _ hx140_3)).trans hx140_3
                      replace hx140_4 := (HB.out.cell (World.block_lt_of_cell? w _ hx140_4)).trans hx140_4
                      replace hx140_5 := (HB.out.cell (World.block_lt_of_cell? w _ hx140_5)).trans hx140_5
                      have HR140_5 := Aside0.mk hi140_5
                      have HC140_5 := Aside0.mk hl140_5
                      clear hi140_5 hl140_5
                      replace p140 := eq_true p140
                      replace q140 := eq_true q140
                      refine start_ (n := 19) (S := fun w' => w'.cell? ⟨gb130, 0, none⟩ = some (.int .i64 ((rd_T39 l0 x7_1).f0)) ∧ w'.cell? ⟨gb130, 1, none⟩ = some (.int .i64 ((rd_T39 l0 x7_1).f1)) ∧ w'.cell? ⟨gb130, 2, none⟩ = some (.int .i64 ((rd_T39 l0 x7_1).f2)) ∧ w'.cell? ⟨gb130, 3, none⟩ = some (.int .i64 ((rd_T39 l0 x7_1).f3.f0)) ∧ w'.cell? ⟨gb130, 4, none⟩ = some (.int .i64 ((rd_T39 l0 x7_1).f3.f1)) ∧ w'.cell? ⟨gb130, 5, none⟩ = some (.slice A129_5 ((rd_T39 l0 x7_1).f3.f2).length c129_5) ∧ w'.cell? (ad129.add (((ji9)).toNat * 6)) = some (.int .i64 ((rd_T39 l0 (ji9)).f0)) ∧ w'.cell? ⟨(ad129.add (((ji9)).toNat * 6)).block, (ad129.add (((ji9)).toNat * 6)).off + 1, none⟩ = some (.int .i64 ((rd_T39 l0 (ji9)).f1)) ∧ w'.cell? ⟨(ad129.add (((ji9)).toNat * 6)).block, (ad129.add (((ji9)).toNat * 6)).off + 2, none⟩ = some (.int .i64 ((rd_T39 l0 (ji9)).f2)) ∧ w'.cell? ⟨(ad129.add (((ji9)).toNat * 6)).block, (ad129.add (((ji9)).toNat * 6)).off + 3, none⟩ = some (.int .i64 ((rd_T39 l0 (ji9)).f3.f0)) ∧ w'.cell? ⟨(ad129.add (((ji9)).toNat * 6)).block, (ad129.add (((ji9)).toNat * 6)).off + 4, none⟩ = some (.int .i64 ((rd_T39 l0 (ji9)).f3.f1)) ∧ w'.cell? ⟨(ad129.add (((ji9)).toNat * 6)).block, (ad129.add (((ji9)).toNat * 6)).off + 5, none⟩ = some (.slice A140_5 ((rd_T39 l0 (ji9)).f3.f2).length c140_5)) (ds := []) #[false, false, false, false, false, false, false, false, false, false, false, false, false, false, false, false, false, false, false] (by kernel_rfl) rfl rfl ⟨(blk_cell BK130.out 0).trans rfl, (blk_cell BK130.out 1).trans rfl, (blk_cell BK130.out 2).trans rfl, (blk_cell BK130.out 3).trans rfl, (blk_cell BK130.out 4).trans rfl, (blk_cell BK130.out 5).trans rfl, ((HB.out.cell (World.block_lt_of_cell? w _ hw140_0)).trans hw140_0), ((HB.out.cell (World.block_lt_of_cell? w _ hw140_1)).trans hw140_1), ((HB.out.cell (World.block_lt_of_cell? w _ hw140_2)).trans hw140_2), ((HB.out.cell (World.block_lt_of_cell? w _ hw140_3)).trans hw140_3), ((HB.out.cell (World.block_lt_of_cell? w _ hw140_4)).trans hw140_4), ((HB.out.cell (World.block_lt_of_cell? w _ hw140_5)).trans hw140_5)⟩ (fun hHeld => ?_); refine with_tabW session_Is.tab4 session_Is.bits4 (fun HT_ HW_ => ?_)
                      generalize w15.drew = w16 at BK130 HB HR140_5 hx140_0 hx140_1 hx140_2 hx140_3 hx140_4 hx140_5 hHeld ⊢
                      refine take_ (i := 0) (N := some 12) (v := ?_) (a' := ?_) (dn_ 1 19) rfl rfl (take_ofW HT_.out HW_.out (by kernel_rfl)) (fun _ _ _ h => h) (Or.inl ⟨by rfl, ?_⟩) hHeld ?_ ?_
                      rotate_left
                      · rintro w' ⟨s0, s1, s2, s3, s4, s5, s6, s7, s8, s9, s10, s11⟩
                        go_simp
                        with_reducible rfl
                      rotate_left; (simp only [Act.put, List.setIfInBounds_toArray, List.set_cons_zero, List.set_cons_succ, i64_w, i32_w]; rfl)
                      refine one_ (i := 1) (N := some 13) (dn_ 2 19) rfl rfl (one_of HT_.out (by kernel_rfl)) (by decide) (fun K hK => ?_)
                      refine goes_ Try.func34 (by kernel_rfl) rfl #[.agg #[.int .i64 ((rd_T39 l0 x7_1).f0), .int .i64 ((rd_T39 l0 x7_1).f1), .int .i64 ((rd_T39 l0 x7_1).f2), .int .i64 ((rd_T39 l0 x7_1).f3.f0), .int .i64 ((rd_T39 l0 x7_1).f3.f1), .slice A129_5 ((rd_T39 l0 x7_1).f3.f2).length c129_5]] (by rfl) rfl rfl (by (try simp only [List.map_toArray, List.map_cons, List.map_nil]); first | done | rfl | (simp only [List.length_drop, List.length_take]; rfl)) ?_
                      with_reducible refine (session_open.calls ((rd_T39 l0 x7_1).f0) ((rd_T39 l0 x7_1).f1) ((rd_T39 l0 x7_1).f2) ((rd_T39 l0 x7_1).f3.f0) ((rd_T39 l0 x7_1).f3.f1) (fun k_ => k_ < w.heap.size) _ _ ((rd_T39 l0 x7_1).f3.f2) t131 t132 t133 t136 t137 t138 _ ?side1 A5.out).mono ?_
                      (case side1 => exact Kd.V_mk HC129_5.out (Kd.F_below (Kd.C_F Kd.heap_string HR129_5.out) (by repeat (first | (with_reducible first | exact HB.out | apply below_alloc | apply pw_below_drewN | apply below_drew1 | refine below_set ?_ GE130.out) | exact HB.out))))
                      rintro e w17 ⟨v134, rfl, ho0, hb⟩
                      refine ⟨_, rfl, ?_⟩
                      have HO135 := Aside0.mk (Kd.V_lower (Kd.V_mono (ok' := fun k_ => k_ ≠ gb130) ho0 (fun k_ hk_ => Or.elim hk_ (fun hs_ => fun e_ => Nat.not_le.2 hs_ (by rw [e_]; exact GW130.out)) (fun hn_ => (Kd.freshB (g := gb130) (o := .cells #[.int .i64 ((rd_T39 l0 x7_1).f0), .int .i64 ((rd_T39 l0 x7_1).f1), .int .i64 ((rd_T39 l0 x7_1).f2), .int .i64 ((rd_T39 l0 x7_1).f3.f0), .int .i64 ((rd_T39 l0 x7_1).f3.f1), .slice A129_5 ((rd_T39 l0 x7_1).f3.f2).length c129_5] 39 (0, 0)) (by (with_reducible repeat (first | refine blk_drewN ?_ _ | refine blk_drew ?_ | refine blk_alloc ?_ _)); exact BK130.out) k_ hn_)))) (below_size (by repeat (first | (with_reducible first | exact HB.out | apply below_alloc | apply pw_below_drewN | apply below_drew1 | refine below_set ?_ GE130.out) | exact HB.out))))
                      replace BK130 := Aside0.mk (blk_below (g := gb130) (o := .cells #[.int .i64 ((rd_T39 l0 x7_1).f0), .int .i64 ((rd_T39 l0 x7_1).f1), .int .i64 ((rd_T39 l0 x7_1).f2), .int .i64 ((rd_T39 l0 x7_1).f3.f0), .int .i64 ((rd_T39 l0 x7_1).f3.f1), .slice A129_5 ((rd_T39 l0 x7_1).f3.f2).length c129_5] 39 (0, 0)) (by (with_reducible repeat (first | refine blk_drewN ?_ _ | refine blk_drew ?_ | refine blk_alloc ?_ _)); exact BK130.out) hb)
                      replace HB := Aside0.mk (below_step (by repeat (first | (with_reducible first | exact HB.out | apply below_alloc | apply pw_below_drewN | apply below_drew1 | refine below_set ?_ GE130.out) | exact HB.out)) hb)
                      (try clear hb)
                      (try clear hb2)
                      (try clear hk)
                      (try clear hi)
                      (try clear ho0)
                      obtain ⟨Ao18, co18, eo18⟩ := Kd.V_slice HO135.out
                      (first | subst eo18 | (injection eo18 with f1_ f2_ f3_; have f4_ := f1_.symm; have f5_ := f3_.symm; clear f1_ f2_ f3_; subst f4_; subst f5_))
                      refine hK.out _ _ ⟨(blk_cell BK130.out 0).trans rfl, (blk_cell BK130.out 1).trans rfl, (blk_cell BK130.out 2).trans rfl, (blk_cell BK130.out 3).trans rfl, (blk_cell BK130.out 4).trans rfl, (blk_cell BK130.out 5).trans rfl, ((HB.out.cell (World.block_lt_of_cell? w _ hw140_0)).trans hw140_0), ((HB.out.cell (World.block_lt_of_cell? w _ hw140_1)).trans hw140_1), ((HB.out.cell (World.block_lt_of_cell? w _ hw140_2)).trans hw140_2), ((HB.out.cell (World.block_lt_of_cell? w _ hw140_3)).trans hw140_3), ((HB.out.cell (World.block_lt_of_cell? w _ hw140_4)).trans hw140_4), ((HB.out.cell (World.block_lt_of_cell? w _ hw140_5)).trans hw140_5)⟩ (fun hHeld => ?_)
                      clear hK K
                      refine norm_ (a' := ?_) ?_ ?_
                      rotate_left
                      · show Act.put _ (some 13) _ = _
                        simp only [Act.put, List.setIfInBounds_toArray, List.set_cons_zero, List.set_cons_succ, i64_w, i32_w]
                        rfl
                      refine one_ (i := 2) (N := some 14) (dn_ 3 19) rfl rfl (one_of HT_.out (by kernel_rfl)) (by decide) (fun K hK => ?_)
                      refine goes_ Try.func35 (by kernel_rfl) rfl #[.agg #[.int .i64 t131, .int .i64 t132, .slice Ao18 t133.length co18, .int .i64 t136, .int .i64 t137, .int .i64 t138]] (by rfl) rfl rfl (by (try simp only [List.map_toArray, List.map_cons, List.map_nil]); first | done | rfl | (simp only [List.length_drop, List.length_take]; rfl)) ?_
                      with_reducible refine (session_client_right.calls t131 t132 _ _ t133 t136 t137 t138 true _ ?side1 ?side2 A6.out).mono ?_
                      (case side1 => repeat (first | exact (Kd.V_reads' HO135.out).2.2 | (with_reducible refine Kd.C_alloc ?_ _) | (with_reducible refine Kd.C_drewN ?_ _) | (with_reducible refine Kd.C_drew ?_)))
                      (case side2 => exact (Kd.V_reads' HO135.out).2.1)
                      rintro e w19 ⟨rfl, hb⟩
                      refine ⟨_, rfl, ?_⟩
                      replace HO135 := Aside0.mk (Kd.V_below (by (with_reducible repeat (first | apply Kd.V_alloc | apply Kd.V_drewN | apply Kd.V_drew)); exact HO135.out) hb)
                      replace BK130 := Aside0.mk (blk_below (g := gb130) (o := .cells #[.int .i64 ((rd_T39 l0 x7_1).f0), .int .i64 ((rd_T39 l0 x7_1).f1), .int .i64 ((rd_T39 l0 x7_1).f2), .int .i64 ((rd_T39 l0 x7_1).f3.f0), .int .i64 ((rd_T39 l0 x7_1).f3.f1), .slice A129_5 ((rd_T39 l0 x7_1).f3.f2).length c129_5] 39 (0, 0)) (by (with_reducible repeat (first | refine blk_drewN ?_ _ | refine blk_drew ?_ | refine blk_alloc ?_ _)); exact BK130.out) hb)
                      replace HB := Aside0.mk (below_step (by repeat (first | (with_reducible first | exact HB.out | apply below_alloc | apply pw_below_drewN | apply below_drew1 | refine below_set ?_ GE130.out) | exact HB.out)) hb)
                      (try clear hb)
                      (try clear hb2)
                      (try clear hk)
                      (try clear hi)
                      refine hK.out _ _ ⟨(blk_cell BK130.out 0).trans rfl, (blk_cell BK130.out 1).trans rfl, (blk_cell BK130.out 2).trans rfl, (blk_cell BK130.out 3).trans rfl, (blk_cell BK130.out 4).trans rfl, (blk_cell BK130.out 5).trans rfl, ((HB.out.cell (World.block_lt_of_cell? w _ hw140_0)).trans hw140_0), ((HB.out.cell (World.block_lt_of_cell? w _ hw140_1)).trans hw140_1), ((HB.out.cell (World.block_lt_of_cell? w _ hw140_2)).trans hw140_2), ((HB.out.cell (World.block_lt_of_cell? w _ hw140_3)).trans hw140_3), ((HB.out.cell (World.block_lt_of_cell? w _ hw140_4)).trans hw140_4), ((HB.out.cell (World.block_lt_of_cell? w _ hw140_5)).trans hw140_5)⟩ (fun hHeld => ?_)
                      clear hK K
                      refine norm_ (a' := ?_) ?_ ?_
                      rotate_left
                      · show Act.put _ (some 14) _ = _
                        simp only [Act.put, List.setIfInBounds_toArray, List.set_cons_zero, List.set_cons_succ, i64_w, i32_w]
                        rfl
                      have Q_ := Qs.mk (n := 19) [(0, 3, 15, 15), (0, 4, 16, 31), (0, 5, 17, 63), (0, 6, 18, 127), (0, 7, 19, 255), (0, 8, 20, 511), (0, 9, 21, 1023), (0, 10, 22, 2047), (0, 11, 23, 4095), (0, 12, 24, 8191), (0, 14, 26, 24575), (2, 13, 25, 32767), (2, 15, 27, 65535), (0, 16, 28, 131071), (0, 17, 29, 262143), (0, 18, 30, 524287)]
                      iterate 16 (first | (obtain ⟨q_, Q_⟩ := Qs.p Q_; refine pureQ_ q_ (v := ?_) (a' := ?_) rfl rfl (any_of HT_.out (by kernel_rfl)) (fun _ _ _ h => h) (Or.inl ⟨by rfl, ?_⟩) ?_ ?_; rotate_left; (intro w'; go_simp; with_reducible rfl); rotate_left; (simp only [Act.put, List.setIfInBounds_toArray, List.set_cons_zero, List.set_cons_succ, i64_w, i32_w]; rfl)) | (obtain ⟨q_, Q_⟩ := Qs.t Q_; refine takeQ_ q_ (v := ?_) (a' := ?_) rfl rfl (take_ofW HT_.out HW_.out (by kernel_rfl)) (fun _ _ _ h => h) (Or.inl ⟨by rfl, ?_⟩) hHeld ?_ ?_; rotate_left; (rintro w' ⟨s0, s1, s2, s3, s4, s5, s6, s7, s8, s9, s10, s11⟩; go_simp; with_reducible rfl); rotate_left; (simp only [Act.put, List.setIfInBounds_toArray, List.set_cons_zero, List.set_cons_succ, i64_w, i32_w]; rfl)))
                      clear Q_
                      refine done_ (done_of HT_.out (by kernel_rfl)) ?_
                      try go_wp2
                      go_ret
                      exact ⟨by first | rfl | (simp [errW_none, errW_some] <;> rfl) | (simp only [← hji9]; first | rfl | (simp [errW_none, errW_some] <;> rfl)) | (simp [*, errW_none, errW_some] <;> rfl), by repeat (first | (with_reducible first | exact HB.out | apply below_alloc | apply pw_below_drewN | apply below_drew1 | refine below_set ?_ GE130.out) | exact HB.out)⟩
                    · rw [if_neg c12] at H
                      have c12b0 : decide (((rd_T39 l0 x7_1).f0) ≤ ((rd_T39 l0 (ji9)).f0)) = false := decide_eq_false c12
                      clear c12
                      have H' := Aside0.mk H
                      clear H
                      have p129 : 0 ≤ (x7_1 : Int) := of_decide_eq_true (by first | (with_reducible assumption) | assumption)
                      have q129 : x7_1 < (l0.length : Int) := of_decide_eq_true (by first | (with_reducible assumption) | assumption)
                      obtain ⟨ad129, A129_5, c129_5, e129, hx129_0, hx129_1, hx129_2, hx129_3, hx129_4, hx129_5, hl129_5, hi129_5⟩ := at_T39 HR0.out x7_1 p129 q129
                      cases e129
                      replace hx129_0 := (HB.out.cell (World.block_lt_of_cell? w _ hx129_0)).trans hx129_0
                      replace hx129_1 := (HB.out.cell (World.block_lt_of_cell? w _ hx129_1)).trans hx129_1
                      replace hx129_2 := (HB.out.cell (World.block_lt_of_cell? w _ hx129_2)).trans hx129_2
                      replace hx129_3 := (HB.out.cell (World.block_lt_of_cell? w _ hx129_3)).trans hx129_3
                      replace hx129_4 := (HB.out.cell (World.block_lt_of_cell? w _ hx129_4)).trans hx129_4
                      replace hx129_5 := (HB.out.cell (World.block_lt_of_cell? w _ hx129_5)).trans hx129_5
                      have HR129_5 := Aside0.mk hi129_5
                      have HC129_5 := Aside0.mk hl129_5
                      clear hi129_5 hl129_5
                      replace p129 := eq_true p129
                      replace q129 := eq_true q129
                      try go_wp2_with (first | ((with_reducible refine gate_dst (N := 4) rfl ?_); refine box_event ?hg (N := 4) ?hd (cs := #[.int .i64 0, .int .i64 0, .int .i64 0, .int .i64 0, .int .i64 0, .slice none 0 0]) (t := 39) ?hr ?_; (case hd => rfl); (case hg => rfl); (case hr => first | (go_simp; done) | (go_simp; rfl)); intro gb130 hg w20 hbox hb; have BK130 := Aside0.mk (hbox); have GW130 := Aside0.mk ((by rw [hg]; exact (below_size (by repeat (first | (with_reducible first | exact HB.out | apply below_alloc | apply pw_below_drewN | apply below_drew1) | exact HB.out))) : w.heap.size ≤ gb130)); have GE130 := Aside0.mk ((by rw [hg]; exact (below_size (by repeat (first | (with_reducible first | exact HB.out | apply below_alloc | apply pw_below_drewN | apply below_drew1) | exact HB.out))) : w.heap.size ≤ gb130)); replace HB := Aside0.mk (below_step (by repeat (first | (with_reducible first | exact HB.out | apply below_alloc | apply pw_below_drewN | apply below_drew1) | exact HB.out)) hb); clear hb hbox hg; have hcz21_0 : w20.cell? ⟨gb130, 0, none⟩ = some (.int .i64 0) := (blk_cell BK130.out 0).trans rfl; have hcz21_1 : w20.cell? ⟨gb130, 1, none⟩ = some (.int .i64 0) := (blk_cell BK130.out 1).trans rfl; have hcz21_2 : w20.cell? ⟨gb130, 2, none⟩ = some (.int .i64 0) := (blk_cell BK130.out 2).trans rfl; have hcz21_3 : w20.cell? ⟨gb130, 3, none⟩ = some (.int .i64 0) := (blk_cell BK130.out 3).trans rfl; have hcz21_4 : w20.cell? ⟨gb130, 4, none⟩ = some (.int .i64 0) := (blk_cell BK130.out 4).trans rfl; have hcz21_5 : w20.cell? ⟨gb130, 5, none⟩ = some (.slice none 0 0) := (blk_cell BK130.out 5).trans rfl; have hfz21_0 := blk_frozen BK130.out 0; have hfz21_1 := blk_frozen BK130.out 1; have hfz21_2 := blk_frozen BK130.out 2; have hfz21_3 := blk_frozen BK130.out 3; have hfz21_4 := blk_frozen BK130.out 4; have hfz21_5 := blk_frozen BK130.out 5))
                      have n0_ : Aside0 (((((((w20.setCell ⟨gb130, 0, none⟩ (.int .i64 ((rd_T39 l0 x7_1).f0))).setCell ⟨gb130, 1, none⟩ (.int .i64 ((rd_T39 l0 x7_1).f1))).setCell ⟨gb130, 2, none⟩ (.int .i64 ((rd_T39 l0 x7_1).f2))).setCell ⟨gb130, 3, none⟩ (.int .i64 ((rd_T39 l0 x7_1).f3.f0))).setCell ⟨gb130, 4, none⟩ (.int .i64 ((rd_T39 l0 x7_1).f3.f1))).setCell ⟨gb130, 5, none⟩ (.slice A129_5 ((rd_T39 l0 x7_1).f3.f2).length c129_5)).heap[gb130]? = some (.cells #[.int .i64 ((rd_T39 l0 x7_1).f0), .int .i64 ((rd_T39 l0 x7_1).f1), .int .i64 ((rd_T39 l0 x7_1).f2), .int .i64 ((rd_T39 l0 x7_1).f3.f0), .int .i64 ((rd_T39 l0 x7_1).f3.f1), .slice A129_5 ((rd_T39 l0 x7_1).f3.f2).length c129_5] 39 (0, 0))) := ⟨by (with_reducible repeat (first | refine blk_drewN ?_ _ | refine blk_drew ?_ | refine blk_alloc ?_ _)); refine blk_put (cs := #[.int .i64 ((rd_T39 l0 x7_1).f0), .int .i64 ((rd_T39 l0 x7_1).f1), .int .i64 ((rd_T39 l0 x7_1).f2), .int .i64 ((rd_T39 l0 x7_1).f3.f0), .int .i64 ((rd_T39 l0 x7_1).f3.f1), .slice none 0 0]) ?_ 5 _ rfl; (with_reducible repeat (first | refine blk_drewN ?_ _ | refine blk_drew ?_ | refine blk_alloc ?_ _)); refine blk_put (cs := #[.int .i64 ((rd_T39 l0 x7_1).f0), .int .i64 ((rd_T39 l0 x7_1).f1), .int .i64 ((rd_T39 l0 x7_1).f2), .int .i64 ((rd_T39 l0 x7_1).f3.f0), .int .i64 0, .slice none 0 0]) ?_ 4 _ rfl; (with_reducible repeat (first | refine blk_drewN ?_ _ | refine blk_drew ?_ | refine blk_alloc ?_ _)); refine blk_put (cs := #[.int .i64 ((rd_T39 l0 x7_1).f0), .int .i64 ((rd_T39 l0 x7_1).f1), .int .i64 ((rd_T39 l0 x7_1).f2), .int .i64 0, .int .i64 0, .slice none 0 0]) ?_ 3 _ rfl; (with_reducible repeat (first | refine blk_drewN ?_ _ | refine blk_drew ?_ | refine blk_alloc ?_ _)); refine blk_put (cs := #[.int .i64 ((rd_T39 l0 x7_1).f0), .int .i64 ((rd_T39 l0 x7_1).f1), .int .i64 0, .int .i64 0, .int .i64 0, .slice none 0 0]) ?_ 2 _ rfl; (with_reducible repeat (first | refine blk_drewN ?_ _ | refine blk_drew ?_ | refine blk_alloc ?_ _)); refine blk_put (cs := #[.int .i64 ((rd_T39 l0 x7_1).f0), .int .i64 0, .int .i64 0, .int .i64 0, .int .i64 0, .slice none 0 0]) ?_ 1 _ rfl; (with_reducible repeat (first | refine blk_drewN ?_ _ | refine blk_drew ?_ | refine blk_alloc ?_ _)); refine blk_put (cs := #[.int .i64 0, .int .i64 0, .int .i64 0, .int .i64 0, .int .i64 0, .slice none 0 0]) ?_ 0 _ rfl; (with_reducible repeat (first | refine blk_drewN ?_ _ | refine blk_drew ?_ | refine blk_alloc ?_ _)); exact BK130.out⟩
                      have n1_ : Aside0 (Below w.heap.size w ((((((w20.setCell ⟨gb130, 0, none⟩ (.int .i64 ((rd_T39 l0 x7_1).f0))).setCell ⟨gb130, 1, none⟩ (.int .i64 ((rd_T39 l0 x7_1).f1))).setCell ⟨gb130, 2, none⟩ (.int .i64 ((rd_T39 l0 x7_1).f2))).setCell ⟨gb130, 3, none⟩ (.int .i64 ((rd_T39 l0 x7_1).f3.f0))).setCell ⟨gb130, 4, none⟩ (.int .i64 ((rd_T39 l0 x7_1).f3.f1))).setCell ⟨gb130, 5, none⟩ (.slice A129_5 ((rd_T39 l0 x7_1).f3.f2).length c129_5))) := ⟨by repeat (first | (with_reducible first | exact HB.out | apply below_alloc | apply pw_below_drewN | apply below_drew1 | refine below_set ?_ GE130.out) | exact HB.out)⟩
                      (try clear BK130)
                      (try clear HB)
                      generalize ((((((w20.setCell ⟨gb130, 0, none⟩ (.int .i64 ((rd_T39 l0 x7_1).f0))).setCell ⟨gb130, 1, none⟩ (.int .i64 ((rd_T39 l0 x7_1).f1))).setCell ⟨gb130, 2, none⟩ (.int .i64 ((rd_T39 l0 x7_1).f2))).setCell ⟨gb130, 3, none⟩ (.int .i64 ((rd_T39 l0 x7_1).f3.f0))).setCell ⟨gb130, 4, none⟩ (.int .i64 ((rd_T39 l0 x7_1).f3.f1))).setCell ⟨gb130, 5, none⟩ (.slice A129_5 ((rd_T39 l0 x7_1).f3.f2).length c129_5)) = w22 at n0_ n1_ ⊢
                      have BK130 := n0_
                      have HB := n1_
                      clear n0_ n1_
                      replace BK130 := Aside0.mk (blk_drew BK130.out)
                      replace HB := Aside0.mk (below_drew1 HB.out)
                      have p140 : 0 ≤ ((ji9) : Int) := of_decide_eq_true (by first | (with_reducible assumption) | assumption)
                      have q140 : (ji9) < (l0.length : Int) := of_decide_eq_true (by first | (with_reducible assumption) | assumption)
                      obtain ⟨ad140, A140_5, c140_5, e140, hx140_0, hx140_1, hx140_2, hx140_3, hx140_4, hx140_5, hl140_5, hi140_5⟩ := at_T39 HR0.out (ji9) p140 q140
                      have hw140_5 := hx140_5
                      have hw140_4 := hx140_4
                      have hw140_3 := hx140_3
                      have hw140_2 := hx140_2
                      have hw140_1 := hx140_1
                      have hw140_0 := hx140_0
                      obtain rfl : ad129 = ad140 := (by injection e140)
                      replace hx140_0 := (HB.out.cell (World.block_lt_of_cell? w _ hx140_0)).trans hx140_0
                      replace hx140_1 := (HB.out.cell (World.block_lt_of_cell? w _ hx140_1)).trans hx140_1
                      replace hx140_2 := (HB.out.cell (World.block_lt_of_cell? w _ hx140_2)).trans hx140_2
                      replace hx140_3 := (HB.out.cell (World.block_lt_of_cell? w _ hx140_3)).trans hx140_3
                      replace hx140_4 := (HB.out.cell (World.block_lt_of_cell? w _ hx140_4)).trans hx140_4
                      replace hx140_5 := (HB.out.cell (World.block_lt_of_cell? w _ hx140_5)).trans hx140_5
                      have HR140_5 := Aside0.mk hi140_5
                      have HC140_5 := Aside0.mk hl140_5
                      clear hi140_5 hl140_5
                      replace p140 := eq_true p140
                      replace q140 := eq_true q140
                      refine start_ (n := 19) (S := fun w' => w'.cell? ⟨gb130, 0, none⟩ = some (.int .i64 ((rd_T39 l0 x7_1).f0)) ∧ w'.cell? ⟨gb130, 1, none⟩ = some (.int .i64 ((rd_T39 l0 x7_1).f1)) ∧ w'.cell? ⟨gb130, 2, none⟩ = some (.int .i64 ((rd_T39 l0 x7_1).f2)) ∧ w'.cell? ⟨gb130, 3, none⟩ = some (.int .i64 ((rd_T39 l0 x7_1).f3.f0)) ∧ w'.cell? ⟨gb130, 4, none⟩ = some (.int .i64 ((rd_T39 l0 x7_1).f3.f1)) ∧ w'.cell? ⟨gb130, 5, none⟩ = some (.slice A129_5 ((rd_T39 l0 x7_1).f3.f2).length c129_5) ∧ w'.cell? (ad129.add (((ji9)).toNat * 6)) = some (.int .i64 ((rd_T39 l0 (ji9)).f0)) ∧ w'.cell? ⟨(ad129.add (((ji9)).toNat * 6)).block, (ad129.add (((ji9)).toNat * 6)).off + 1, none⟩ = some (.int .i64 ((rd_T39 l0 (ji9)).f1)) ∧ w'.cell? ⟨(ad129.add (((ji9)).toNat * 6)).block, (ad129.add (((ji9)).toNat * 6)).off + 2, none⟩ = some (.int .i64 ((rd_T39 l0 (ji9)).f2)) ∧ w'.cell? ⟨(ad129.add (((ji9)).toNat * 6)).block, (ad129.add (((ji9)).toNat * 6)).off + 3, none⟩ = some (.int .i64 ((rd_T39 l0 (ji9)).f3.f0)) ∧ w'.cell? ⟨(ad129.add (((ji9)).toNat * 6)).block, (ad129.add (((ji9)).toNat * 6)).off + 4, none⟩ = some (.int .i64 ((rd_T39 l0 (ji9)).f3.f1)) ∧ w'.cell? ⟨(ad129.add (((ji9)).toNat * 6)).block, (ad129.add (((ji9)).toNat * 6)).off + 5, none⟩ = some (.slice A140_5 ((rd_T39 l0 (ji9)).f3.f2).length c140_5)) (ds := []) #[false, false, false, false, false, false, false, false, false, false, false, false, false, false, false, false, false, false, false] (by kernel_rfl) rfl rfl ⟨(blk_cell BK130.out 0).trans rfl, (blk_cell BK130.out 1).trans rfl, (blk_cell BK130.out 2).trans rfl, (blk_cell BK130.out 3).trans rfl, (blk_cell BK130.out 4).trans rfl, (blk_cell BK130.out 5).trans rfl, ((HB.out.cell (World.block_lt_of_cell? w _ hw140_0)).trans hw140_0), ((HB.out.cell (World.block_lt_of_cell? w _ hw140_1)).trans hw140_1), ((HB.out.cell (World.block_lt_of_cell? w _ hw140_2)).trans hw140_2), ((HB.out.cell (World.block_lt_of_cell? w _ hw140_3)).trans hw140_3), ((HB.out.cell (World.block_lt_of_cell? w _ hw140_4)).trans hw140_4), ((HB.out.cell (World.block_lt_of_cell? w _ hw140_5)).trans hw140_5)⟩ (fun hHeld => ?_); refine with_tabW session_Is.tab4 session_Is.bits4 (fun HT_ HW_ => ?_)
                      generalize w22.drew = w23 at BK130 HB HR140_5 hx140_0 hx140_1 hx140_2 hx140_3 hx140_4 hx140_5 hHeld ⊢
                      refine take_ (i := 0) (N := some 12) (v := ?_) (a' := ?_) (dn_ 1 19) rfl rfl (take_ofW HT_.out HW_.out (by kernel_rfl)) (fun _ _ _ h => h) (Or.inl ⟨by rfl, ?_⟩) hHeld ?_ ?_
                      rotate_left
                      · rintro w' ⟨s0, s1, s2, s3, s4, s5, s6, s7, s8, s9, s10, s11⟩
                        go_simp
                        with_reducible rfl
                      rotate_left; (simp only [Act.put, List.setIfInBounds_toArray, List.set_cons_zero, List.set_cons_succ, i64_w, i32_w]; rfl)
                      refine one_ (i := 1) (N := some 13) (dn_ 2 19) rfl rfl (one_of HT_.out (by kernel_rfl)) (by decide) (fun K hK => ?_)
                      refine goes_ Try.func34 (by kernel_rfl) rfl #[.agg #[.int .i64 ((rd_T39 l0 x7_1).f0), .int .i64 ((rd_T39 l0 x7_1).f1), .int .i64 ((rd_T39 l0 x7_1).f2), .int .i64 ((rd_T39 l0 x7_1).f3.f0), .int .i64 ((rd_T39 l0 x7_1).f3.f1), .slice A129_5 ((rd_T39 l0 x7_1).f3.f2).length c129_5]] (by rfl) rfl rfl (by (try simp only [List.map_toArray, List.map_cons, List.map_nil]); first | done | rfl | (simp only [List.length_drop, List.length_take]; rfl)) ?_
                      with_reducible refine (session_open.calls ((rd_T39 l0 x7_1).f0) ((rd_T39 l0 x7_1).f1) ((rd_T39 l0 x7_1).f2) ((rd_T39 l0 x7_1).f3.f0) ((rd_T39 l0 x7_1).f3.f1) (fun k_ => k_ < w.heap.size) _ _ ((rd_T39 l0 x7_1).f3.f2) t131 t132 t133 t136 t137 t138 _ ?side1 A5.out).mono ?_
                      (case side1 => exact Kd.V_mk HC129_5.out (Kd.F_below (Kd.C_F Kd.heap_string HR129_5.out) (by repeat (first | (with_reducible first | exact HB.out | apply below_alloc | apply pw_below_drewN | apply below_drew1 | refine below_set ?_ GE130.out) | exact HB.out))))
                      rintro e w24 ⟨v134, rfl, ho0, hb⟩
                      refine ⟨_, rfl, ?_⟩
                      have HO135 := Aside0.mk (Kd.V_lower (Kd.V_mono (ok' := fun k_ => k_ ≠ gb130) ho0 (fun k_ hk_ => Or.elim hk_ (fun hs_ => fun e_ => Nat.not_le.2 hs_ (by rw [e_]; exact GW130.out)) (fun hn_ => (Kd.freshB (g := gb130) (o := .cells #[.int .i64 ((rd_T39 l0 x7_1).f0), .int .i64 ((rd_T39 l0 x7_1).f1), .int .i64 ((rd_T39 l0 x7_1).f2), .int .i64 ((rd_T39 l0 x7_1).f3.f0), .int .i64 ((rd_T39 l0 x7_1).f3.f1), .slice A129_5 ((rd_T39 l0 x7_1).f3.f2).length c129_5] 39 (0, 0)) (by (with_reducible repeat (first | refine blk_drewN ?_ _ | refine blk_drew ?_ | refine blk_alloc ?_ _)); exact BK130.out) k_ hn_)))) (below_size (by repeat (first | (with_reducible first | exact HB.out | apply below_alloc | apply pw_below_drewN | apply below_drew1 | refine below_set ?_ GE130.out) | exact HB.out))))
                      replace BK130 := Aside0.mk (blk_below (g := gb130) (o := .cells #[.int .i64 ((rd_T39 l0 x7_1).f0), .int .i64 ((rd_T39 l0 x7_1).f1), .int .i64 ((rd_T39 l0 x7_1).f2), .int .i64 ((rd_T39 l0 x7_1).f3.f0), .int .i64 ((rd_T39 l0 x7_1).f3.f1), .slice A129_5 ((rd_T39 l0 x7_1).f3.f2).length c129_5] 39 (0, 0)) (by (with_reducible repeat (first | refine blk_drewN ?_ _ | refine blk_drew ?_ | refine blk_alloc ?_ _)); exact BK130.out) hb)
                      replace HB := Aside0.mk (below_step (by repeat (first | (with_reducible first | exact HB.out | apply below_alloc | apply pw_below_drewN | apply below_drew1 | refine below_set ?_ GE130.out) | exact HB.out)) hb)
                      (try clear hb)
                      (try clear hb2)
                      (try clear hk)
                      (try clear hi)
                      (try clear ho0)
                      obtain ⟨Ao25, co25, eo25⟩ := Kd.V_slice HO135.out
                      (first | subst eo25 | (injection eo25 with f1_ f2_ f3_; have f4_ := f1_.symm; have f5_ := f3_.symm; clear f1_ f2_ f3_; subst f4_; subst f5_))
                      refine hK.out _ _ ⟨(blk_cell BK130.out 0).trans rfl, (blk_cell BK130.out 1).trans rfl, (blk_cell BK130.out 2).trans rfl, (blk_cell BK130.out 3).trans rfl, (blk_cell BK130.out 4).trans rfl, (blk_cell BK130.out 5).trans rfl, ((HB.out.cell (World.block_lt_of_cell? w _ hw140_0)).trans hw140_0), ((HB.out.cell (World.block_lt_of_cell? w _ hw140_1)).trans hw140_1), ((HB.out.cell (World.block_lt_of_cell? w _ hw140_2)).trans hw140_2), ((HB.out.cell (World.block_lt_of_cell? w _ hw140_3)).trans hw140_3), ((HB.out.cell (World.block_lt_of_cell? w _ hw140_4)).trans hw140_4), ((HB.out.cell (World.block_lt_of_cell? w _ hw140_5)).trans hw140_5)⟩ (fun hHeld => ?_)
                      clear hK K
                      refine norm_ (a' := ?_) ?_ ?_
                      rotate_left
                      · show Act.put _ (some 13) _ = _
                        simp only [Act.put, List.setIfInBounds_toArray, List.set_cons_zero, List.set_cons_succ, i64_w, i32_w]
                        rfl
                      refine one_ (i := 2) (N := some 14) (dn_ 3 19) rfl rfl (one_of HT_.out (by kernel_rfl)) (by decide) (fun K hK => ?_)
                      refine goes_ Try.func35 (by kernel_rfl) rfl #[.agg #[.int .i64 t131, .int .i64 t132, .slice Ao25 t133.length co25, .int .i64 t136, .int .i64 t137, .int .i64 t138]] (by rfl) rfl rfl (by (try simp only [List.map_toArray, List.map_cons, List.map_nil]); first | done | rfl | (simp only [List.length_drop, List.length_take]; rfl)) ?_
                      with_reducible refine (session_client_right.calls t131 t132 _ _ t133 t136 t137 t138 true _ ?side1 ?side2 A6.out).mono ?_
                      (case side1 => repeat (first | exact (Kd.V_reads' HO135.out).2.2 | (with_reducible refine Kd.C_alloc ?_ _) | (with_reducible refine Kd.C_drewN ?_ _) | (with_reducible refine Kd.C_drew ?_)))
                      (case side2 => exact (Kd.V_reads' HO135.out).2.1)
                      rintro e w26 ⟨rfl, hb⟩
                      refine ⟨_, rfl, ?_⟩
                      replace HO135 := Aside0.mk (Kd.V_below (by (with_reducible repeat (first | apply Kd.V_alloc | apply Kd.V_drewN | apply Kd.V_drew)); exact HO135.out) hb)
                      replace BK130 := Aside0.mk (blk_below (g := gb130) (o := .cells #[.int .i64 ((rd_T39 l0 x7_1).f0), .int .i64 ((rd_T39 l0 x7_1).f1), .int .i64 ((rd_T39 l0 x7_1).f2), .int .i64 ((rd_T39 l0 x7_1).f3.f0), .int .i64 ((rd_T39 l0 x7_1).f3.f1), .slice A129_5 ((rd_T39 l0 x7_1).f3.f2).length c129_5] 39 (0, 0)) (by (with_reducible repeat (first | refine blk_drewN ?_ _ | refine blk_drew ?_ | refine blk_alloc ?_ _)); exact BK130.out) hb)
                      replace HB := Aside0.mk (below_step (by repeat (first | (with_reducible first | exact HB.out | apply below_alloc | apply pw_below_drewN | apply below_drew1 | refine below_set ?_ GE130.out) | exact HB.out)) hb)
                      (try clear hb)
                      (try clear hb2)
                      (try clear hk)
                      (try clear hi)
                      refine hK.out _ _ ⟨(blk_cell BK130.out 0).trans rfl, (blk_cell BK130.out 1).trans rfl, (blk_cell BK130.out 2).trans rfl, (blk_cell BK130.out 3).trans rfl, (blk_cell BK130.out 4).trans rfl, (blk_cell BK130.out 5).trans rfl, ((HB.out.cell (World.block_lt_of_cell? w _ hw140_0)).trans hw140_0), ((HB.out.cell (World.block_lt_of_cell? w _ hw140_1)).trans hw140_1), ((HB.out.cell (World.block_lt_of_cell? w _ hw140_2)).trans hw140_2), ((HB.out.cell (World.block_lt_of_cell? w _ hw140_3)).trans hw140_3), ((HB.out.cell (World.block_lt_of_cell? w _ hw140_4)).trans hw140_4), ((HB.out.cell (World.block_lt_of_cell? w _ hw140_5)).trans hw140_5)⟩ (fun hHeld => ?_)
                      clear hK K
                      refine norm_ (a' := ?_) ?_ ?_
                      rotate_left
                      · show Act.put _ (some 14) _ = _
                        simp only [Act.put, List.setIfInBounds_toArray, List.set_cons_zero, List.set_cons_succ, i64_w, i32_w]
                        rfl
                      have Q_ := Qs.mk (n := 19) [(0, 3, 15, 15), (0, 4, 16, 31), (0, 5, 17, 63), (0, 6, 18, 127), (0, 7, 19, 255), (0, 8, 20, 511), (0, 9, 21, 1023), (0, 10, 22, 2047), (0, 11, 23, 4095), (0, 12, 24, 8191), (0, 14, 26, 24575), (2, 13, 25, 32767), (2, 15, 27, 65535), (0, 16, 28, 131071), (0, 17, 29, 262143), (0, 18, 30, 524287)]
                      iterate 16 (first | (obtain ⟨q_, Q_⟩ := Qs.p Q_; refine pureQ_ q_ (v := ?_) (a' := ?_) rfl rfl (any_of HT_.out (by kernel_rfl)) (fun _ _ _ h => h) (Or.inl ⟨by rfl, ?_⟩) ?_ ?_; rotate_left; (intro w'; go_simp; with_reducible rfl); rotate_left; (simp only [Act.put, List.setIfInBounds_toArray, List.set_cons_zero, List.set_cons_succ, i64_w, i32_w]; rfl)) | (obtain ⟨q_, Q_⟩ := Qs.t Q_; refine takeQ_ q_ (v := ?_) (a' := ?_) rfl rfl (take_ofW HT_.out HW_.out (by kernel_rfl)) (fun _ _ _ h => h) (Or.inl ⟨by rfl, ?_⟩) hHeld ?_ ?_; rotate_left; (rintro w' ⟨s0, s1, s2, s3, s4, s5, s6, s7, s8, s9, s10, s11⟩; go_simp; with_reducible rfl); rotate_left; (simp only [Act.put, List.setIfInBounds_toArray, List.set_cons_zero, List.set_cons_succ, i64_w, i32_w]; rfl)))
                      clear Q_
                      refine done_ (done_of HT_.out (by kernel_rfl)) ?_
                      try go_wp2
                      go_roundg k1
                      case measure => have := HK1.out; omega
                      case rel => exact ⟨(wrap64 (x7_1 + 1)), (by first | rfl | (simp; done) | (simp [*]; done)), H', ⟨by have := HK1.out; omega⟩, ⟨by repeat (first | (with_reducible first | exact HB.out | apply below_alloc | apply pw_below_drewN | apply below_drew1 | refine below_set ?_ GE130.out) | exact HB.out)⟩⟩
                  · rw [if_neg c11] at H
                    exact absurd H (by simp)
                · rw [if_neg c10] at H
                  exact absurd H (by simp)
              · rw [if_neg c8] at H
                have c8b0 : decide (0 < x7_1) = false := decide_eq_false c8
                clear c8
                have H' := Aside0.mk H
                clear H
                have p129 : 0 ≤ (x7_1 : Int) := of_decide_eq_true (by first | (with_reducible assumption) | assumption)
                have q129 : x7_1 < (l0.length : Int) := of_decide_eq_true (by first | (with_reducible assumption) | assumption)
                obtain ⟨ad129, A129_5, c129_5, e129, hx129_0, hx129_1, hx129_2, hx129_3, hx129_4, hx129_5, hl129_5, hi129_5⟩ := at_T39 HR0.out x7_1 p129 q129
                cases e129
                replace hx129_0 := (HB.out.cell (World.block_lt_of_cell? w _ hx129_0)).trans hx129_0
                replace hx129_1 := (HB.out.cell (World.block_lt_of_cell? w _ hx129_1)).trans hx129_1
                replace hx129_2 := (HB.out.cell (World.block_lt_of_cell? w _ hx129_2)).trans hx129_2
                replace hx129_3 := (HB.out.cell (World.block_lt_of_cell? w _ hx129_3)).trans hx129_3
                replace hx129_4 := (HB.out.cell (World.block_lt_of_cell? w _ hx129_4)).trans hx129_4
                replace hx129_5 := (HB.out.cell (World.block_lt_of_cell? w _ hx129_5)).trans hx129_5
                have HR129_5 := Aside0.mk hi129_5
                have HC129_5 := Aside0.mk hl129_5
                clear hi129_5 hl129_5
                replace p129 := eq_true p129
                replace q129 := eq_true q129
                try go_wp2_with (first | ((with_reducible refine gate_dst (N := 4) rfl ?_); refine box_event ?hg (N := 4) ?hd (cs := #[.int .i64 0, .int .i64 0, .int .i64 0, .int .i64 0, .int .i64 0, .slice none 0 0]) (t := 39) ?hr ?_; (case hd => rfl); (case hg => rfl); (case hr => first | (go_simp; done) | (go_simp; rfl)); intro gb130 hg w27 hbox hb; have BK130 := Aside0.mk (hbox); have GW130 := Aside0.mk ((by rw [hg]; exact (below_size (by repeat (first | (with_reducible first | exact HB.out | apply below_alloc | apply pw_below_drewN | apply below_drew1) | exact HB.out))) : w.heap.size ≤ gb130)); have GE130 := Aside0.mk ((by rw [hg]; exact (below_size (by repeat (first | (with_reducible first | exact HB.out | apply below_alloc | apply pw_below_drewN | apply below_drew1) | exact HB.out))) : w.heap.size ≤ gb130)); replace HB := Aside0.mk (below_step (by repeat (first | (with_reducible first | exact HB.out | apply below_alloc | apply pw_below_drewN | apply below_drew1) | exact HB.out)) hb); clear hb hbox hg; have hcz28_0 : w27.cell? ⟨gb130, 0, none⟩ = some (.int .i64 0) := (blk_cell BK130.out 0).trans rfl; have hcz28_1 : w27.cell? ⟨gb130, 1, none⟩ = some (.int .i64 0) := (blk_cell BK130.out 1).trans rfl; have hcz28_2 : w27.cell? ⟨gb130, 2, none⟩ = some (.int .i64 0) := (blk_cell BK130.out 2).trans rfl; have hcz28_3 : w27.cell? ⟨gb130, 3, none⟩ = some (.int .i64 0) := (blk_cell BK130.out 3).trans rfl; have hcz28_4 : w27.cell? ⟨gb130, 4, none⟩ = some (.int .i64 0) := (blk_cell BK130.out 4).trans rfl; have hcz28_5 : w27.cell? ⟨gb130, 5, none⟩ = some (.slice none 0 0) := (blk_cell BK130.out 5).trans rfl; have hfz28_0 := blk_frozen BK130.out 0; have hfz28_1 := blk_frozen BK130.out 1; have hfz28_2 := blk_frozen BK130.out 2; have hfz28_3 := blk_frozen BK130.out 3; have hfz28_4 := blk_frozen BK130.out 4; have hfz28_5 := blk_frozen BK130.out 5))
                have n0_ : Aside0 (((((((w27.setCell ⟨gb130, 0, none⟩ (.int .i64 ((rd_T39 l0 x7_1).f0))).setCell ⟨gb130, 1, none⟩ (.int .i64 ((rd_T39 l0 x7_1).f1))).setCell ⟨gb130, 2, none⟩ (.int .i64 ((rd_T39 l0 x7_1).f2))).setCell ⟨gb130, 3, none⟩ (.int .i64 ((rd_T39 l0 x7_1).f3.f0))).setCell ⟨gb130, 4, none⟩ (.int .i64 ((rd_T39 l0 x7_1).f3.f1))).setCell ⟨gb130, 5, none⟩ (.slice A129_5 ((rd_T39 l0 x7_1).f3.f2).length c129_5)).heap[gb130]? = some (.cells #[.int .i64 ((rd_T39 l0 x7_1).f0), .int .i64 ((rd_T39 l0 x7_1).f1), .int .i64 ((rd_T39 l0 x7_1).f2), .int .i64 ((rd_T39 l0 x7_1).f3.f0), .int .i64 ((rd_T39 l0 x7_1).f3.f1), .slice A129_5 ((rd_T39 l0 x7_1).f3.f2).length c129_5] 39 (0, 0))) := ⟨by (with_reducible repeat (first | refine blk_drewN ?_ _ | refine blk_drew ?_ | refine blk_alloc ?_ _)); refine blk_put (cs := #[.int .i64 ((rd_T39 l0 x7_1).f0), .int .i64 ((rd_T39 l0 x7_1).f1), .int .i64 ((rd_T39 l0 x7_1).f2), .int .i64 ((rd_T39 l0 x7_1).f3.f0), .int .i64 ((rd_T39 l0 x7_1).f3.f1), .slice none 0 0]) ?_ 5 _ rfl; (with_reducible repeat (first | refine blk_drewN ?_ _ | refine blk_drew ?_ | refine blk_alloc ?_ _)); refine blk_put (cs := #[.int .i64 ((rd_T39 l0 x7_1).f0), .int .i64 ((rd_T39 l0 x7_1).f1), .int .i64 ((rd_T39 l0 x7_1).f2), .int .i64 ((rd_T39 l0 x7_1).f3.f0), .int .i64 0, .slice none 0 0]) ?_ 4 _ rfl; (with_reducible repeat (first | refine blk_drewN ?_ _ | refine blk_drew ?_ | refine blk_alloc ?_ _)); refine blk_put (cs := #[.int .i64 ((rd_T39 l0 x7_1).f0), .int .i64 ((rd_T39 l0 x7_1).f1), .int .i64 ((rd_T39 l0 x7_1).f2), .int .i64 0, .int .i64 0, .slice none 0 0]) ?_ 3 _ rfl; (with_reducible repeat (first | refine blk_drewN ?_ _ | refine blk_drew ?_ | refine blk_alloc ?_ _)); refine blk_put (cs := #[.int .i64 ((rd_T39 l0 x7_1).f0), .int .i64 ((rd_T39 l0 x7_1).f1), .int .i64 0, .int .i64 0, .int .i64 0, .slice none 0 0]) ?_ 2 _ rfl; (with_reducible repeat (first | refine blk_drewN ?_ _ | refine blk_drew ?_ | refine blk_alloc ?_ _)); refine blk_put (cs := #[.int .i64 ((rd_T39 l0 x7_1).f0), .int .i64 0, .int .i64 0, .int .i64 0, .int .i64 0, .slice none 0 0]) ?_ 1 _ rfl; (with_reducible repeat (first | refine blk_drewN ?_ _ | refine blk_drew ?_ | refine blk_alloc ?_ _)); refine blk_put (cs := #[.int .i64 0, .int .i64 0, .int .i64 0, .int .i64 0, .int .i64 0, .slice none 0 0]) ?_ 0 _ rfl; (with_reducible repeat (first | refine blk_drewN ?_ _ | refine blk_drew ?_ | refine blk_alloc ?_ _)); exact BK130.out⟩
                have n1_ : Aside0 (Below w.heap.size w ((((((w27.setCell ⟨gb130, 0, none⟩ (.int .i64 ((rd_T39 l0 x7_1).f0))).setCell ⟨gb130, 1, none⟩ (.int .i64 ((rd_T39 l0 x7_1).f1))).setCell ⟨gb130, 2, none⟩ (.int .i64 ((rd_T39 l0 x7_1).f2))).setCell ⟨gb130, 3, none⟩ (.int .i64 ((rd_T39 l0 x7_1).f3.f0))).setCell ⟨gb130, 4, none⟩ (.int .i64 ((rd_T39 l0 x7_1).f3.f1))).setCell ⟨gb130, 5, none⟩ (.slice A129_5 ((rd_T39 l0 x7_1).f3.f2).length c129_5))) := ⟨by repeat (first | (with_reducible first | exact HB.out | apply below_alloc | apply pw_below_drewN | apply below_drew1 | refine below_set ?_ GE130.out) | exact HB.out)⟩
                (try clear BK130)
                (try clear HB)
                generalize ((((((w27.setCell ⟨gb130, 0, none⟩ (.int .i64 ((rd_T39 l0 x7_1).f0))).setCell ⟨gb130, 1, none⟩ (.int .i64 ((rd_T39 l0 x7_1).f1))).setCell ⟨gb130, 2, none⟩ (.int .i64 ((rd_T39 l0 x7_1).f2))).setCell ⟨gb130, 3, none⟩ (.int .i64 ((rd_T39 l0 x7_1).f3.f0))).setCell ⟨gb130, 4, none⟩ (.int .i64 ((rd_T39 l0 x7_1).f3.f1))).setCell ⟨gb130, 5, none⟩ (.slice A129_5 ((rd_T39 l0 x7_1).f3.f2).length c129_5)) = w29 at n0_ n1_ ⊢
                have BK130 := n0_
                have HB := n1_
                clear n0_ n1_
                replace BK130 := Aside0.mk (blk_drew BK130.out)
                replace HB := Aside0.mk (below_drew1 HB.out)
                refine start_ (n := 19) (S := fun w' => w'.cell? ⟨gb130, 0, none⟩ = some (.int .i64 ((rd_T39 l0 x7_1).f0)) ∧ w'.cell? ⟨gb130, 1, none⟩ = some (.int .i64 ((rd_T39 l0 x7_1).f1)) ∧ w'.cell? ⟨gb130, 2, none⟩ = some (.int .i64 ((rd_T39 l0 x7_1).f2)) ∧ w'.cell? ⟨gb130, 3, none⟩ = some (.int .i64 ((rd_T39 l0 x7_1).f3.f0)) ∧ w'.cell? ⟨gb130, 4, none⟩ = some (.int .i64 ((rd_T39 l0 x7_1).f3.f1)) ∧ w'.cell? ⟨gb130, 5, none⟩ = some (.slice A129_5 ((rd_T39 l0 x7_1).f3.f2).length c129_5)) (ds := []) #[false, false, false, false, false, false, false, false, false, false, false, false, false, false, false, false, false, false, false] (by kernel_rfl) rfl rfl ⟨(blk_cell BK130.out 0).trans rfl, (blk_cell BK130.out 1).trans rfl, (blk_cell BK130.out 2).trans rfl, (blk_cell BK130.out 3).trans rfl, (blk_cell BK130.out 4).trans rfl, (blk_cell BK130.out 5).trans rfl⟩ (fun hHeld => ?_); refine with_tabW session_Is.tab4 session_Is.bits4 (fun HT_ HW_ => ?_)
                generalize w29.drew = w30 at BK130 HB hHeld ⊢
                refine take_ (i := 0) (N := some 12) (v := ?_) (a' := ?_) (dn_ 1 19) rfl rfl (take_ofW HT_.out HW_.out (by kernel_rfl)) (fun _ _ _ h => h) (Or.inl ⟨by rfl, ?_⟩) hHeld ?_ ?_
                rotate_left
                · rintro w' ⟨s0, s1, s2, s3, s4, s5⟩
                  go_simp
                  with_reducible rfl
                rotate_left; (simp only [Act.put, List.setIfInBounds_toArray, List.set_cons_zero, List.set_cons_succ, i64_w, i32_w]; rfl)
                refine one_ (i := 1) (N := some 13) (dn_ 2 19) rfl rfl (one_of HT_.out (by kernel_rfl)) (by decide) (fun K hK => ?_)
                refine goes_ Try.func34 (by kernel_rfl) rfl #[.agg #[.int .i64 ((rd_T39 l0 x7_1).f0), .int .i64 ((rd_T39 l0 x7_1).f1), .int .i64 ((rd_T39 l0 x7_1).f2), .int .i64 ((rd_T39 l0 x7_1).f3.f0), .int .i64 ((rd_T39 l0 x7_1).f3.f1), .slice A129_5 ((rd_T39 l0 x7_1).f3.f2).length c129_5]] (by rfl) rfl rfl (by (try simp only [List.map_toArray, List.map_cons, List.map_nil]); first | done | rfl | (simp only [List.length_drop, List.length_take]; rfl)) ?_
                with_reducible refine (session_open.calls ((rd_T39 l0 x7_1).f0) ((rd_T39 l0 x7_1).f1) ((rd_T39 l0 x7_1).f2) ((rd_T39 l0 x7_1).f3.f0) ((rd_T39 l0 x7_1).f3.f1) (fun k_ => k_ < w.heap.size) _ _ ((rd_T39 l0 x7_1).f3.f2) t131 t132 t133 t136 t137 t138 _ ?side1 A5.out).mono ?_
                (case side1 => exact Kd.V_mk HC129_5.out (Kd.F_below (Kd.C_F Kd.heap_string HR129_5.out) (by repeat (first | (with_reducible first | exact HB.out | apply below_alloc | apply pw_below_drewN | apply below_drew1 | refine below_set ?_ GE130.out) | exact HB.out))))
                rintro e w31 ⟨v134, rfl, ho0, hb⟩
                refine ⟨_, rfl, ?_⟩
                have HO135 := Aside0.mk (Kd.V_lower (Kd.V_mono (ok' := fun k_ => k_ ≠ gb130) ho0 (fun k_ hk_ => Or.elim hk_ (fun hs_ => fun e_ => Nat.not_le.2 hs_ (by rw [e_]; exact GW130.out)) (fun hn_ => (Kd.freshB (g := gb130) (o := .cells #[.int .i64 ((rd_T39 l0 x7_1).f0), .int .i64 ((rd_T39 l0 x7_1).f1), .int .i64 ((rd_T39 l0 x7_1).f2), .int .i64 ((rd_T39 l0 x7_1).f3.f0), .int .i64 ((rd_T39 l0 x7_1).f3.f1), .slice A129_5 ((rd_T39 l0 x7_1).f3.f2).length c129_5] 39 (0, 0)) (by (with_reducible repeat (first | refine blk_drewN ?_ _ | refine blk_drew ?_ | refine blk_alloc ?_ _)); exact BK130.out) k_ hn_)))) (below_size (by repeat (first | (with_reducible first | exact HB.out | apply below_alloc | apply pw_below_drewN | apply below_drew1 | refine below_set ?_ GE130.out) | exact HB.out))))
                replace BK130 := Aside0.mk (blk_below (g := gb130) (o := .cells #[.int .i64 ((rd_T39 l0 x7_1).f0), .int .i64 ((rd_T39 l0 x7_1).f1), .int .i64 ((rd_T39 l0 x7_1).f2), .int .i64 ((rd_T39 l0 x7_1).f3.f0), .int .i64 ((rd_T39 l0 x7_1).f3.f1), .slice A129_5 ((rd_T39 l0 x7_1).f3.f2).length c129_5] 39 (0, 0)) (by (with_reducible repeat (first | refine blk_drewN ?_ _ | refine blk_drew ?_ | refine blk_alloc ?_ _)); exact BK130.out) hb)
                replace HB := Aside0.mk (below_step (by repeat (first | (with_reducible first | exact HB.out | apply below_alloc | apply pw_below_drewN | apply below_drew1 | refine below_set ?_ GE130.out) | exact HB.out)) hb)
                (try clear hb)
                (try clear hb2)
                (try clear hk)
                (try clear hi)
                (try clear ho0)
                obtain ⟨Ao32, co32, eo32⟩ := Kd.V_slice HO135.out
                (first | subst eo32 | (injection eo32 with f1_ f2_ f3_; have f4_ := f1_.symm; have f5_ := f3_.symm; clear f1_ f2_ f3_; subst f4_; subst f5_))
                refine hK.out _ _ ⟨(blk_cell BK130.out 0).trans rfl, (blk_cell BK130.out 1).trans rfl, (blk_cell BK130.out 2).trans rfl, (blk_cell BK130.out 3).trans rfl, (blk_cell BK130.out 4).trans rfl, (blk_cell BK130.out 5).trans rfl⟩ (fun hHeld => ?_)
                clear hK K
                refine norm_ (a' := ?_) ?_ ?_
                rotate_left
                · show Act.put _ (some 13) _ = _
                  simp only [Act.put, List.setIfInBounds_toArray, List.set_cons_zero, List.set_cons_succ, i64_w, i32_w]
                  rfl
                refine one_ (i := 2) (N := some 14) (dn_ 3 19) rfl rfl (one_of HT_.out (by kernel_rfl)) (by decide) (fun K hK => ?_)
                refine goes_ Try.func35 (by kernel_rfl) rfl #[.agg #[.int .i64 t131, .int .i64 t132, .slice Ao32 t133.length co32, .int .i64 t136, .int .i64 t137, .int .i64 t138]] (by rfl) rfl rfl (by (try simp only [List.map_toArray, List.map_cons, List.map_nil]); first | done | rfl | (simp only [List.length_drop, List.length_take]; rfl)) ?_
                with_reducible refine (session_client_right.calls t131 t132 _ _ t133 t136 t137 t138 true _ ?side1 ?side2 A6.out).mono ?_
                (case side1 => repeat (first | exact (Kd.V_reads' HO135.out).2.2 | (with_reducible refine Kd.C_alloc ?_ _) | (with_reducible refine Kd.C_drewN ?_ _) | (with_reducible refine Kd.C_drew ?_)))
                (case side2 => exact (Kd.V_reads' HO135.out).2.1)
                rintro e w33 ⟨rfl, hb⟩
                refine ⟨_, rfl, ?_⟩
                replace HO135 := Aside0.mk (Kd.V_below (by (with_reducible repeat (first | apply Kd.V_alloc | apply Kd.V_drewN | apply Kd.V_drew)); exact HO135.out) hb)
                replace BK130 := Aside0.mk (blk_below (g := gb130) (o := .cells #[.int .i64 ((rd_T39 l0 x7_1).f0), .int .i64 ((rd_T39 l0 x7_1).f1), .int .i64 ((rd_T39 l0 x7_1).f2), .int .i64 ((rd_T39 l0 x7_1).f3.f0), .int .i64 ((rd_T39 l0 x7_1).f3.f1), .slice A129_5 ((rd_T39 l0 x7_1).f3.f2).length c129_5] 39 (0, 0)) (by (with_reducible repeat (first | refine blk_drewN ?_ _ | refine blk_drew ?_ | refine blk_alloc ?_ _)); exact BK130.out) hb)
                replace HB := Aside0.mk (below_step (by repeat (first | (with_reducible first | exact HB.out | apply below_alloc | apply pw_below_drewN | apply below_drew1 | refine below_set ?_ GE130.out) | exact HB.out)) hb)
                (try clear hb)
                (try clear hb2)
                (try clear hk)
                (try clear hi)
                refine hK.out _ _ ⟨(blk_cell BK130.out 0).trans rfl, (blk_cell BK130.out 1).trans rfl, (blk_cell BK130.out 2).trans rfl, (blk_cell BK130.out 3).trans rfl, (blk_cell BK130.out 4).trans rfl, (blk_cell BK130.out 5).trans rfl⟩ (fun hHeld => ?_)
                clear hK K
                refine norm_ (a' := ?_) ?_ ?_
                rotate_left
                · show Act.put _ (some 14) _ = _
                  simp only [Act.put, List.setIfInBounds_toArray, List.set_cons_zero, List.set_cons_succ, i64_w, i32_w]
                  rfl
                have Q_ := Qs.mk (n := 19) [(0, 3, 15, 15), (0, 4, 16, 31), (0, 5, 17, 63), (0, 6, 18, 127), (0, 7, 19, 255), (1, 8, 20, 511), (1, 9, 21, 1023), (1, 10, 22, 2047), (1, 11, 23, 4095), (1, 12, 24, 8191), (1, 13, 25, 16383), (1, 14, 26, 32767), (1, 15, 27, 65535), (1, 16, 28, 131071), (0, 17, 29, 262143), (0, 18, 30, 524287)]
                iterate 16 (first | (obtain ⟨q_, Q_⟩ := Qs.p Q_; refine pureQ_ q_ (v := ?_) (a' := ?_) rfl rfl (any_of HT_.out (by kernel_rfl)) (fun _ _ _ h => h) (Or.inl ⟨by rfl, ?_⟩) ?_ ?_; rotate_left; (intro w'; go_simp; with_reducible rfl); rotate_left; (simp only [Act.put, List.setIfInBounds_toArray, List.set_cons_zero, List.set_cons_succ, i64_w, i32_w]; rfl)) | (obtain ⟨q_, Q_⟩ := Qs.u Q_; refine pureQ_ q_ (v := undef) (a' := ?_) rfl rfl (any_of HT_.out (by kernel_rfl)) (fun _ _ _ h => h) (Or.inr ⟨by rfl, rfl⟩) ?_ ?_; rotate_left; (simp only [Act.put, List.setIfInBounds_toArray, List.set_cons_zero, List.set_cons_succ, i64_w, i32_w]; rfl)))
                clear Q_
                refine done_ (done_of HT_.out (by kernel_rfl)) ?_
                try go_wp2
                go_roundg k1
                case measure => have := HK1.out; omega
                case rel => exact ⟨(wrap64 (x7_1 + 1)), (by first | rfl | (simp; done) | (simp [*]; done)), H', ⟨by have := HK1.out; omega⟩, ⟨by repeat (first | (with_reducible first | exact HB.out | apply below_alloc | apply pw_below_drewN | apply below_drew1 | refine below_set ?_ GE130.out) | exact HB.out)⟩⟩
            · replace c7 := Bool.eq_false_iff.mpr c7
              subst c7
              have H1 : (some false) = some r := by rw [if_neg (show ¬ (false = true) by decide)] at H; exact H
              clear H
              have H := H1
              clear H1
              obtain rfl := Option.some.inj H
              have p129 : 0 ≤ (x7_1 : Int) := of_decide_eq_true (by first | (with_reducible assumption) | assumption)
              have q129 : x7_1 < (l0.length : Int) := of_decide_eq_true (by first | (with_reducible assumption) | assumption)
              obtain ⟨ad129, A129_5, c129_5, e129, hx129_0, hx129_1, hx129_2, hx129_3, hx129_4, hx129_5, hl129_5, hi129_5⟩ := at_T39 HR0.out x7_1 p129 q129
              cases e129
              replace hx129_0 := (HB.out.cell (World.block_lt_of_cell? w _ hx129_0)).trans hx129_0
              replace hx129_1 := (HB.out.cell (World.block_lt_of_cell? w _ hx129_1)).trans hx129_1
              replace hx129_2 := (HB.out.cell (World.block_lt_of_cell? w _ hx129_2)).trans hx129_2
              replace hx129_3 := (HB.out.cell (World.block_lt_of_cell? w _ hx129_3)).trans hx129_3
              replace hx129_4 := (HB.out.cell (World.block_lt_of_cell? w _ hx129_4)).trans hx129_4
              replace hx129_5 := (HB.out.cell (World.block_lt_of_cell? w _ hx129_5)).trans hx129_5
              have HR129_5 := Aside0.mk hi129_5
              have HC129_5 := Aside0.mk hl129_5
              clear hi129_5 hl129_5
              replace p129 := eq_true p129
              replace q129 := eq_true q129
              try go_wp2_with (first | ((with_reducible refine gate_dst (N := 4) rfl ?_); refine box_event ?hg (N := 4) ?hd (cs := #[.int .i64 0, .int .i64 0, .int .i64 0, .int .i64 0, .int .i64 0, .slice none 0 0]) (t := 39) ?hr ?_; (case hd => rfl); (case hg => rfl); (case hr => first | (go_simp; done) | (go_simp; rfl)); intro gb130 hg w34 hbox hb; have BK130 := Aside0.mk (hbox); have GW130 := Aside0.mk ((by rw [hg]; exact (below_size (by repeat (first | (with_reducible first | exact HB.out | apply below_alloc | apply pw_below_drewN | apply below_drew1) | exact HB.out))) : w.heap.size ≤ gb130)); have GE130 := Aside0.mk ((by rw [hg]; exact (below_size (by repeat (first | (with_reducible first | exact HB.out | apply below_alloc | apply pw_below_drewN | apply below_drew1) | exact HB.out))) : w.heap.size ≤ gb130)); replace HB := Aside0.mk (below_step (by repeat (first | (with_reducible first | exact HB.out | apply below_alloc | apply pw_below_drewN | apply below_drew1) | exact HB.out)) hb); clear hb hbox hg; have hcz35_0 : w34.cell? ⟨gb130, 0, none⟩ = some (.int .i64 0) := (blk_cell BK130.out 0).trans rfl; have hcz35_1 : w34.cell? ⟨gb130, 1, none⟩ = some (.int .i64 0) := (blk_cell BK130.out 1).trans rfl; have hcz35_2 : w34.cell? ⟨gb130, 2, none⟩ = some (.int .i64 0) := (blk_cell BK130.out 2).trans rfl; have hcz35_3 : w34.cell? ⟨gb130, 3, none⟩ = some (.int .i64 0) := (blk_cell BK130.out 3).trans rfl; have hcz35_4 : w34.cell? ⟨gb130, 4, none⟩ = some (.int .i64 0) := (blk_cell BK130.out 4).trans rfl; have hcz35_5 : w34.cell? ⟨gb130, 5, none⟩ = some (.slice none 0 0) := (blk_cell BK130.out 5).trans rfl; have hfz35_0 := blk_frozen BK130.out 0; have hfz35_1 := blk_frozen BK130.out 1; have hfz35_2 := blk_frozen BK130.out 2; have hfz35_3 := blk_frozen BK130.out 3; have hfz35_4 := blk_frozen BK130.out 4; have hfz35_5 := blk_frozen BK130.out 5))
              have n0_ : Aside0 (((((((w34.setCell ⟨gb130, 0, none⟩ (.int .i64 ((rd_T39 l0 x7_1).f0))).setCell ⟨gb130, 1, none⟩ (.int .i64 ((rd_T39 l0 x7_1).f1))).setCell ⟨gb130, 2, none⟩ (.int .i64 ((rd_T39 l0 x7_1).f2))).setCell ⟨gb130, 3, none⟩ (.int .i64 ((rd_T39 l0 x7_1).f3.f0))).setCell ⟨gb130, 4, none⟩ (.int .i64 ((rd_T39 l0 x7_1).f3.f1))).setCell ⟨gb130, 5, none⟩ (.slice A129_5 ((rd_T39 l0 x7_1).f3.f2).length c129_5)).heap[gb130]? = some (.cells #[.int .i64 ((rd_T39 l0 x7_1).f0), .int .i64 ((rd_T39 l0 x7_1).f1), .int .i64 ((rd_T39 l0 x7_1).f2), .int .i64 ((rd_T39 l0 x7_1).f3.f0), .int .i64 ((rd_T39 l0 x7_1).f3.f1), .slice A129_5 ((rd_T39 l0 x7_1).f3.f2).length c129_5] 39 (0, 0))) := ⟨by (with_reducible repeat (first | refine blk_drewN ?_ _ | refine blk_drew ?_ | refine blk_alloc ?_ _)); refine blk_put (cs := #[.int .i64 ((rd_T39 l0 x7_1).f0), .int .i64 ((rd_T39 l0 x7_1).f1), .int .i64 ((rd_T39 l0 x7_1).f2), .int .i64 ((rd_T39 l0 x7_1).f3.f0), .int .i64 ((rd_T39 l0 x7_1).f3.f1), .slice none 0 0]) ?_ 5 _ rfl; (with_reducible repeat (first | refine blk_drewN ?_ _ | refine blk_drew ?_ | refine blk_alloc ?_ _)); refine blk_put (cs := #[.int .i64 ((rd_T39 l0 x7_1).f0), .int .i64 ((rd_T39 l0 x7_1).f1), .int .i64 ((rd_T39 l0 x7_1).f2), .int .i64 ((rd_T39 l0 x7_1).f3.f0), .int .i64 0, .slice none 0 0]) ?_ 4 _ rfl; (with_reducible repeat (first | refine blk_drewN ?_ _ | refine blk_drew ?_ | refine blk_alloc ?_ _)); refine blk_put (cs := #[.int .i64 ((rd_T39 l0 x7_1).f0), .int .i64 ((rd_T39 l0 x7_1).f1), .int .i64 ((rd_T39 l0 x7_1).f2), .int .i64 0, .int .i64 0, .slice none 0 0]) ?_ 3 _ rfl; (with_reducible repeat (first | refine blk_drewN ?_ _ | refine blk_drew ?_ | refine blk_alloc ?_ _)); refine blk_put (cs := #[.int .i64 ((rd_T39 l0 x7_1).f0), .int .i64 ((rd_T39 l0 x7_1).f1), .int .i64 0, .int .i64 0, .int .i64 0, .slice none 0 0]) ?_ 2 _ rfl; (with_reducible repeat (first | refine blk_drewN ?_ _ | refine blk_drew ?_ | refine blk_alloc ?_ _)); refine blk_put (cs := #[.int .i64 ((rd_T39 l0 x7_1).f0), .int .i64 0, .int .i64 0, .int .i64 0, .int .i64 0, .slice none 0 0]) ?_ 1 _ rfl; (with_reducible repeat (first | refine blk_drewN ?_ _ | refine blk_drew ?_ | refine blk_alloc ?_ _)); refine blk_put (cs := #[.int .i64 0, .int .i64 0, .int .i64 0, .int .i64 0, .int .i64 0, .slice none 0 0]) ?_ 0 _ rfl; (with_reducible repeat (first | refine blk_drewN ?_ _ | refine blk_drew ?_ | refine blk_alloc ?_ _)); exact BK130.out⟩
              have n1_ : Aside0 (Below w.heap.size w ((((((w34.setCell ⟨gb130, 0, none⟩ (.int .i64 ((rd_T39 l0 x7_1).f0))).setCell ⟨gb130, 1, none⟩ (.int .i64 ((rd_T39 l0 x7_1).f1))).setCell ⟨gb130, 2, none⟩ (.int .i64 ((rd_T39 l0 x7_1).f2))).setCell ⟨gb130, 3, none⟩ (.int .i64 ((rd_T39 l0 x7_1).f3.f0))).setCell ⟨gb130, 4, none⟩ (.int .i64 ((rd_T39 l0 x7_1).f3.f1))).setCell ⟨gb130, 5, none⟩ (.slice A129_5 ((rd_T39 l0 x7_1).f3.f2).length c129_5))) := ⟨by repeat (first | (with_reducible first | exact HB.out | apply below_alloc | apply pw_below_drewN | apply below_drew1 | refine below_set ?_ GE130.out) | exact HB.out)⟩
              (try clear BK130)
              (try clear HB)
              generalize ((((((w34.setCell ⟨gb130, 0, none⟩ (.int .i64 ((rd_T39 l0 x7_1).f0))).setCell ⟨gb130, 1, none⟩ (.int .i64 ((rd_T39 l0 x7_1).f1))).setCell ⟨gb130, 2, none⟩ (.int .i64 ((rd_T39 l0 x7_1).f2))).setCell ⟨gb130, 3, none⟩ (.int .i64 ((rd_T39 l0 x7_1).f3.f0))).setCell ⟨gb130, 4, none⟩ (.int .i64 ((rd_T39 l0 x7_1).f3.f1))).setCell ⟨gb130, 5, none⟩ (.slice A129_5 ((rd_T39 l0 x7_1).f3.f2).length c129_5)) = w36 at n0_ n1_ ⊢
              have BK130 := n0_
              have HB := n1_
              clear n0_ n1_
              replace BK130 := Aside0.mk (blk_drew BK130.out)
              replace HB := Aside0.mk (below_drew1 HB.out)
              refine start_ (n := 19) (S := fun w' => w'.cell? ⟨gb130, 0, none⟩ = some (.int .i64 ((rd_T39 l0 x7_1).f0)) ∧ w'.cell? ⟨gb130, 1, none⟩ = some (.int .i64 ((rd_T39 l0 x7_1).f1)) ∧ w'.cell? ⟨gb130, 2, none⟩ = some (.int .i64 ((rd_T39 l0 x7_1).f2)) ∧ w'.cell? ⟨gb130, 3, none⟩ = some (.int .i64 ((rd_T39 l0 x7_1).f3.f0)) ∧ w'.cell? ⟨gb130, 4, none⟩ = some (.int .i64 ((rd_T39 l0 x7_1).f3.f1)) ∧ w'.cell? ⟨gb130, 5, none⟩ = some (.slice A129_5 ((rd_T39 l0 x7_1).f3.f2).length c129_5)) (ds := []) #[false, false, false, false, false, false, false, false, false, false, false, false, false, false, false, false, false, false, false] (by kernel_rfl) rfl rfl ⟨(blk_cell BK130.out 0).trans rfl, (blk_cell BK130.out 1).trans rfl, (blk_cell BK130.out 2).trans rfl, (blk_cell BK130.out 3).trans rfl, (blk_cell BK130.out 4).trans rfl, (blk_cell BK130.out 5).trans rfl⟩ (fun hHeld => ?_); refine with_tabW session_Is.tab4 session_Is.bits4 (fun HT_ HW_ => ?_)
              generalize w36.drew = w37 at BK130 HB hHeld ⊢
              refine take_ (i := 0) (N := some 12) (v := ?_) (a' := ?_) (dn_ 1 19) rfl rfl (take_ofW HT_.out HW_.out (by kernel_rfl)) (fun _ _ _ h => h) (Or.inl ⟨by rfl, ?_⟩) hHeld ?_ ?_
              rotate_left
              · rintro w' ⟨s0, s1, s2, s3, s4, s5⟩
                go_simp
                with_reducible rfl
              rotate_left; (simp only [Act.put, List.setIfInBounds_toArray, List.set_cons_zero, List.set_cons_succ, i64_w, i32_w]; rfl)
              refine one_ (i := 1) (N := some 13) (dn_ 2 19) rfl rfl (one_of HT_.out (by kernel_rfl)) (by decide) (fun K hK => ?_)
              refine goes_ Try.func34 (by kernel_rfl) rfl #[.agg #[.int .i64 ((rd_T39 l0 x7_1).f0), .int .i64 ((rd_T39 l0 x7_1).f1), .int .i64 ((rd_T39 l0 x7_1).f2), .int .i64 ((rd_T39 l0 x7_1).f3.f0), .int .i64 ((rd_T39 l0 x7_1).f3.f1), .slice A129_5 ((rd_T39 l0 x7_1).f3.f2).length c129_5]] (by rfl) rfl rfl (by (try simp only [List.map_toArray, List.map_cons, List.map_nil]); first | done | rfl | (simp only [List.length_drop, List.length_take]; rfl)) ?_
              with_reducible refine (session_open.calls ((rd_T39 l0 x7_1).f0) ((rd_T39 l0 x7_1).f1) ((rd_T39 l0 x7_1).f2) ((rd_T39 l0 x7_1).f3.f0) ((rd_T39 l0 x7_1).f3.f1) (fun k_ => k_ < w.heap.size) _ _ ((rd_T39 l0 x7_1).f3.f2) t131 t132 t133 t136 t137 t138 _ ?side1 A5.out).mono ?_
              (case side1 => exact Kd.V_mk HC129_5.out (Kd.F_below (Kd.C_F Kd.heap_string HR129_5.out) (by repeat (first | (with_reducible first | exact HB.out | apply below_alloc | apply pw_below_drewN | apply below_drew1 | refine below_set ?_ GE130.out) | exact HB.out))))
              rintro e w38 ⟨v134, rfl, ho0, hb⟩
              refine ⟨_, rfl, ?_⟩
              have HO135 := Aside0.mk (Kd.V_lower (Kd.V_mono (ok' := fun k_ => k_ ≠ gb130) ho0 (fun k_ hk_ => Or.elim hk_ (fun hs_ => fun e_ => Nat.not_le.2 hs_ (by rw [e_]; exact GW130.out)) (fun hn_ => (Kd.freshB (g := gb130) (o := .cells #[.int .i64 ((rd_T39 l0 x7_1).f0), .int .i64 ((rd_T39 l0 x7_1).f1), .int .i64 ((rd_T39 l0 x7_1).f2), .int .i64 ((rd_T39 l0 x7_1).f3.f0), .int .i64 ((rd_T39 l0 x7_1).f3.f1), .slice A129_5 ((rd_T39 l0 x7_1).f3.f2).length c129_5] 39 (0, 0)) (by (with_reducible repeat (first | refine blk_drewN ?_ _ | refine blk_drew ?_ | refine blk_alloc ?_ _)); exact BK130.out) k_ hn_)))) (below_size (by repeat (first | (with_reducible first | exact HB.out | apply below_alloc | apply pw_below_drewN | apply below_drew1 | refine below_set ?_ GE130.out) | exact HB.out))))
              replace BK130 := Aside0.mk (blk_below (g := gb130) (o := .cells #[.int .i64 ((rd_T39 l0 x7_1).f0), .int .i64 ((rd_T39 l0 x7_1).f1), .int .i64 ((rd_T39 l0 x7_1).f2), .int .i64 ((rd_T39 l0 x7_1).f3.f0), .int .i64 ((rd_T39 l0 x7_1).f3.f1), .slice A129_5 ((rd_T39 l0 x7_1).f3.f2).length c129_5] 39 (0, 0)) (by (with_reducible repeat (first | refine blk_drewN ?_ _ | refine blk_drew ?_ | refine blk_alloc ?_ _)); exact BK130.out) hb)
              replace HB := Aside0.mk (below_step (by repeat (first | (with_reducible first | exact HB.out | apply below_alloc | apply pw_below_drewN | apply below_drew1 | refine below_set ?_ GE130.out) | exact HB.out)) hb)
              (try clear hb)
              (try clear hb2)
              (try clear hk)
              (try clear hi)
              (try clear ho0)
              obtain ⟨Ao39, co39, eo39⟩ := Kd.V_slice HO135.out
              (first | subst eo39 | (injection eo39 with f1_ f2_ f3_; have f4_ := f1_.symm; have f5_ := f3_.symm; clear f1_ f2_ f3_; subst f4_; subst f5_))
              refine hK.out _ _ ⟨(blk_cell BK130.out 0).trans rfl, (blk_cell BK130.out 1).trans rfl, (blk_cell BK130.out 2).trans rfl, (blk_cell BK130.out 3).trans rfl, (blk_cell BK130.out 4).trans rfl, (blk_cell BK130.out 5).trans rfl⟩ (fun hHeld => ?_)
              clear hK K
              refine norm_ (a' := ?_) ?_ ?_
              rotate_left
              · show Act.put _ (some 13) _ = _
                simp only [Act.put, List.setIfInBounds_toArray, List.set_cons_zero, List.set_cons_succ, i64_w, i32_w]
                rfl
              refine one_ (i := 2) (N := some 14) (dn_ 3 19) rfl rfl (one_of HT_.out (by kernel_rfl)) (by decide) (fun K hK => ?_)
              refine goes_ Try.func35 (by kernel_rfl) rfl #[.agg #[.int .i64 t131, .int .i64 t132, .slice Ao39 t133.length co39, .int .i64 t136, .int .i64 t137, .int .i64 t138]] (by rfl) rfl rfl (by (try simp only [List.map_toArray, List.map_cons, List.map_nil]); first | done | rfl | (simp only [List.length_drop, List.length_take]; rfl)) ?_
              with_reducible refine (session_client_right.calls t131 t132 _ _ t133 t136 t137 t138 false _ ?side1 ?side2 A6.out).mono ?_
              (case side1 => repeat (first | exact (Kd.V_reads' HO135.out).2.2 | (with_reducible refine Kd.C_alloc ?_ _) | (with_reducible refine Kd.C_drewN ?_ _) | (with_reducible refine Kd.C_drew ?_)))
              (case side2 => exact (Kd.V_reads' HO135.out).2.1)
              rintro e w40 ⟨rfl, hb⟩
              refine ⟨_, rfl, ?_⟩
              replace HO135 := Aside0.mk (Kd.V_below (by (with_reducible repeat (first | apply Kd.V_alloc | apply Kd.V_drewN | apply Kd.V_drew)); exact HO135.out) hb)
              replace BK130 := Aside0.mk (blk_below (g := gb130) (o := .cells #[.int .i64 ((rd_T39 l0 x7_1).f0), .int .i64 ((rd_T39 l0 x7_1).f1), .int .i64 ((rd_T39 l0 x7_1).f2), .int .i64 ((rd_T39 l0 x7_1).f3.f0), .int .i64 ((rd_T39 l0 x7_1).f3.f1), .slice A129_5 ((rd_T39 l0 x7_1).f3.f2).length c129_5] 39 (0, 0)) (by (with_reducible repeat (first | refine blk_drewN ?_ _ | refine blk_drew ?_ | refine blk_alloc ?_ _)); exact BK130.out) hb)
              replace HB := Aside0.mk (below_step (by repeat (first | (with_reducible first | exact HB.out | apply below_alloc | apply pw_below_drewN | apply below_drew1 | refine below_set ?_ GE130.out) | exact HB.out)) hb)
              (try clear hb)
              (try clear hb2)
              (try clear hk)
              (try clear hi)
              refine hK.out _ _ ⟨(blk_cell BK130.out 0).trans rfl, (blk_cell BK130.out 1).trans rfl, (blk_cell BK130.out 2).trans rfl, (blk_cell BK130.out 3).trans rfl, (blk_cell BK130.out 4).trans rfl, (blk_cell BK130.out 5).trans rfl⟩ (fun hHeld => ?_)
              clear hK K
              refine norm_ (a' := ?_) ?_ ?_
              rotate_left
              · show Act.put _ (some 14) _ = _
                simp only [Act.put, List.setIfInBounds_toArray, List.set_cons_zero, List.set_cons_succ, i64_w, i32_w]
                rfl
              have Q_ := Qs.mk (n := 19) [(0, 3, 15, 15), (0, 4, 16, 31), (1, 5, 17, 63), (1, 6, 18, 127), (1, 7, 19, 255), (1, 8, 20, 511), (1, 9, 21, 1023), (1, 10, 22, 2047), (1, 11, 23, 4095), (1, 12, 24, 8191), (1, 13, 25, 16383), (1, 14, 26, 32767), (1, 15, 27, 65535), (1, 16, 28, 131071), (1, 17, 29, 262143), (0, 18, 30, 524287)]
              iterate 16 (first | (obtain ⟨q_, Q_⟩ := Qs.p Q_; refine pureQ_ q_ (v := ?_) (a' := ?_) rfl rfl (any_of HT_.out (by kernel_rfl)) (fun _ _ _ h => h) (Or.inl ⟨by rfl, ?_⟩) ?_ ?_; rotate_left; (intro w'; go_simp; with_reducible rfl); rotate_left; (simp only [Act.put, List.setIfInBounds_toArray, List.set_cons_zero, List.set_cons_succ, i64_w, i32_w]; rfl)) | (obtain ⟨q_, Q_⟩ := Qs.u Q_; refine pureQ_ q_ (v := undef) (a' := ?_) rfl rfl (any_of HT_.out (by kernel_rfl)) (fun _ _ _ h => h) (Or.inr ⟨by rfl, rfl⟩) ?_ ?_; rotate_left; (simp only [Act.put, List.setIfInBounds_toArray, List.set_cons_zero, List.set_cons_succ, i64_w, i32_w]; rfl)))
              clear Q_
              refine done_ (done_of HT_.out (by kernel_rfl)) ?_
              try go_wp2
              go_ret
              exact ⟨by first | rfl | (simp [errW_none, errW_some] <;> rfl) | (simp [*, errW_none, errW_some] <;> rfl), by repeat (first | (with_reducible first | exact HB.out | apply below_alloc | apply pw_below_drewN | apply below_drew1 | refine below_set ?_ GE130.out) | exact HB.out)⟩
          · rw [if_neg c4] at H
            exact absurd H (by simp)
        · rw [if_neg c3] at H
          exact absurd H (by simp)
      · rw [if_neg c2] at H
        have c2b0 : decide (x7_1 < (l0.length : Int)) = false := decide_eq_false c2
        clear c2
        obtain rfl := Option.some.inj H
        go_wp2
        go_ret
        exact ⟨by first | rfl | (simp [errW_none, errW_some] <;> rfl) | (simp [*, errW_none, errW_some] <;> rfl), by repeat (first | (with_reducible first | exact HB.out | apply below_alloc | apply pw_below_drewN | apply below_drew1) | exact HB.out)⟩

end Go.Proofs.Ytkhdpmbjjcmooaa.F
