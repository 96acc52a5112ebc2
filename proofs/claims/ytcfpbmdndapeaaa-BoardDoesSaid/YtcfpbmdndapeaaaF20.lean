-- Written by a program of this session (xprint.py), out of the translation and of contracts proved by hand.
import Derived.Test.YtcfpbmdndapeaaaF0
namespace Go.Proofs.Ytcfpbmdndapeaaa.F
open Go.RowKit Go.Proofs.YtcfpbmdndapeaaaV.PrintWords Go.Proofs.YtcfpbmdndapeaaaV.PrintLast Go.Proofs.YtcfpbmdndapeaaaV.PrintMore
attribute [local go_sem] max2_int min2_int max_two min_two max_three min_three max_four min_four   -- for this text's walks alone
set_option linter.unusedVariables false
set_option linter.unusedSimpArgs false

/-! ### watchmanref08_Of: function 28 -/
mutual
def watchmanref08_Of.l0 : Nat → List Int → List (S28) → Int → Int → Int → List (S28) → Option ((List (S28)))
 | 0, _, _, _, _, _, _ => none
 | k + 1, x1, x5, x6, x344000, x344001, x344002 => if x6 < (x344002.length : Int) then (watchmanref08_Of.l1 k x1 x5 x6 false 0 x344000 x344001 x344002) else (some x5)
def watchmanref08_Of.l1 : Nat → List Int → List (S28) → Int → Bool → Int → Int → Int → List (S28) → Option ((List (S28)))
 | 0, _, _, _, _, _, _, _, _ => none
 | k + 1, x1, x5, x6, x7, x8, x344000, x344001, x344002 => if x8 < (x1.length : Int) then (if x7 = true then (watchmanref08_Of.l1 k x1 x5 x6 true (wrap64 (x8 + 1)) x344000 x344001 x344002) else (if 0 ≤ x8 then (if 0 ≤ x6 then (if x6 < (x344002.length : Int) then (watchmanref08_Of.l1 k x1 x5 x6 ((rd x1 x8) == ((rd_T28 x344002 x6).f0.f0)) (wrap64 (x8 + 1)) x344000 x344001 x344002) else (none)) else (none)) else (none))) else (if x7 = true then (if 0 ≤ x6 then (if x6 < (x344002.length : Int) then (if x5.length < 2932031007402 then (watchmanref08_Of.l0 k x1 (x5 ++ [(⟨(⟨(rd_T28 x344002 x6).f0.f0, (rd_T28 x344002 x6).f0.f1⟩ : S26), (rd_T28 x344002 x6).f1, (rd_T28 x344002 x6).f2, (rd_T28 x344002 x6).f3, (rd_T28 x344002 x6).f4⟩ : S28)]) (wrap64 (x6 + 1)) x344000 x344001 x344002) else (none)) else (none)) else (none)) else (watchmanref08_Of.l0 k x1 x5 (wrap64 (x6 + 1)) x344000 x344001 x344002))
end
def watchmanref08_Of.f (k : Nat) (a0_0 : Int) (a0_1 : Int) (l0_2 : List (S28)) (l1 : List Int) : Option ((List (S28))) := watchmanref08_Of.l0 k l1 ([] : List (S28)) 0 a0_0 a0_1 l0_2
theorem watchmanref08_Of.mono_l : ∀ k, (∀ y0 y1 y2 y3 y4 y5, LeO (watchmanref08_Of.l0 k y0 y1 y2 y3 y4 y5) (watchmanref08_Of.l0 (k + 1) y0 y1 y2 y3 y4 y5)) ∧ (∀ y0 y1 y2 y3 y4 y5 y6 y7, LeO (watchmanref08_Of.l1 k y0 y1 y2 y3 y4 y5 y6 y7) (watchmanref08_Of.l1 (k + 1) y0 y1 y2 y3 y4 y5 y6 y7))
 | 0 => ⟨fun _ _ _ _ _ _ r h => by simp [watchmanref08_Of.l0] at h, fun _ _ _ _ _ _ _ _ r h => by simp [watchmanref08_Of.l1] at h⟩
 | k + 1 => by
  obtain ⟨ih0, ih1⟩ := watchmanref08_Of.mono_l k
  refine ⟨?_, ?_⟩
  ·intro y0 y1 y2 y3 y4 y5
   unfold watchmanref08_Of.l0
   repeat' first
   | (with_reducible exact ih0 _ _ _ _ _ _)
   | (with_reducible exact ih1 _ _ _ _ _ _ _ _)
   | (with_reducible exact LeO.refl _)
   | (with_reducible exact LeO.none _)
   | (with_reducible refine LeO.ite ?_ ?_)
   | (with_reducible refine LeO.bind ?_ (fun _ => ?_))
   | exact ih0 _ _ _ _ _ _
   | exact ih1 _ _ _ _ _ _ _ _
   | exact LeO.none _
   | refine LeO.ite ?_ ?_
   | refine LeO.bind ?_ (fun _ => ?_)
  ·intro y0 y1 y2 y3 y4 y5 y6 y7
   unfold watchmanref08_Of.l1
   repeat' first
   | (with_reducible exact ih0 _ _ _ _ _ _)
   | (with_reducible exact ih1 _ _ _ _ _ _ _ _)
   | (with_reducible exact LeO.refl _)
   | (with_reducible exact LeO.none _)
   | (with_reducible refine LeO.ite ?_ ?_)
   | (with_reducible refine LeO.bind ?_ (fun _ => ?_))
   | exact ih0 _ _ _ _ _ _
   | exact ih1 _ _ _ _ _ _ _ _
   | exact LeO.none _
   | refine LeO.ite ?_ ?_
   | refine LeO.bind ?_ (fun _ => ?_)
theorem watchmanref08_Of.mono : ∀ a0 a1 a2 a3 k, LeO (watchmanref08_Of.f k a0 a1 a2 a3) (watchmanref08_Of.f (k + 1) a0 a1 a2 a3) := by
 intro a0 a1 a2 a3 k
 obtain ⟨ih0, ih1⟩ := watchmanref08_Of.mono_l k
 unfold watchmanref08_Of.f
 repeat' first
   | (with_reducible exact ih0 _ _ _ _ _ _)
   | (with_reducible exact ih1 _ _ _ _ _ _ _ _)
   | (with_reducible exact LeO.refl _)
   | (with_reducible exact LeO.none _)
   | (with_reducible refine LeO.ite ?_ ?_)
   | (with_reducible refine LeO.bind ?_ (fun _ => ?_))
   | exact ih0 _ _ _ _ _ _
   | exact ih1 _ _ _ _ _ _ _ _
   | exact LeO.none _
   | refine LeO.ite ?_ ?_
   | refine LeO.bind ?_ (fun _ => ?_)
set_option maxHeartbeats 8000000 in
set_option maxRecDepth 100000 in
theorem watchmanref08_Of.calls (k : Nat) (a0_0 : Int) (a0_1 : Int) (A0_2 : Option Addr) (c0_2 : Nat) (l0_2 : List (S28)) (A1 : Option Addr) (c1 : Nat) (l1 : List Int) (r : List (S28)) (w : World) (hr0_2 : Kd.C k28 w A0_2 l0_2.length l0_2) (hc0_2 : l0_2.length ≤ c0_2) (hr1 : Kd.C (Kd.int .i64) w A1 l1.length l1) (hc1 : l1.length ≤ c1) (h : watchmanref08_Of.f k a0_0 a0_1 l0_2 l1 = some r) :
  Calls Try.prog 28 #[.agg #[.int .i64 a0_0, .int .i64 a0_1, .slice A0_2 l0_2.length c0_2], .slice A1 l1.length c1] w fun e w' => ∃ v0_ : Value, e = .returned (v0_) ∧ Kd.R k28 28 w' w.heap.size (fun _ => True) v0_ r ∧ Below w.heap.size w w' := by
 have hu24 := Try.underlying24
 have hu28 := Try.underlying28
 have HR0_2 := Aside0.mk hr0_2
 have HC0_2 := Aside0.mk hc0_2
 clear hr0_2 hc0_2
 have HR1 := Aside0.mk hr1
 have HC1 := Aside0.mk hc1
 clear hr1 hc1
 have HB := Aside0.mk (Below.refl w.heap.size w)
 have H : (watchmanref08_Of.l0 k l1 ([] : List (S28)) 0 a0_0 a0_1 l0_2) = some r := h
 clear h
 have H' := Aside0.mk H
 clear H
 go_enter Try.func28, Try.ntmps28
 go_wp2_with (first | ((with_reducible refine gate_dst (N := 2) rfl ?_); refine box_event ?hg (N := 2) ?hd (cs := #[.int .i64 a0_0, .int .i64 a0_1, .slice A0_2 l0_2.length c0_2]) (t := 24) ?hr ?_; (case hd => rfl); (case hg => rfl); (case hr => first | (go_simp; done) | (go_simp; rfl)); intro gb343 hg w3 hbox hb; have BK343 := Aside0.mk (hbox); have GW343 := Aside0.mk ((by rw [hg]; exact (below_size HB.out) : w.heap.size ≤ gb343)); have GE343 := Aside0.mk ((by rw [hg]; exact (below_size HB.out) : w.heap.size ≤ gb343)); replace HB := Aside0.mk (below_step HB.out hb); clear hb hbox hg))
 go_loopg [5, 6] k (fun kq v5 v6 w' => ∃ (x5_1 : List (S28)) (x6_1 : Int), v6 = .int .i64 x6_1 ∧ Aside0 (watchmanref08_Of.l0 kq l1 x5_1 x6_1 a0_0 a0_1 l0_2 = some r) ∧ Aside0 (kq ≤ k) ∧ Aside0 (Kd.R k28 28 w' w.heap.size (fun _ => True) v5 x5_1) ∧ Aside0 (w'.heap[gb343]? = some (.cells #[.int .i64 a0_0, .int .i64 a0_1, (.slice A0_2 l0_2.length c0_2)] 24 (0, 0))) ∧ Aside0 (Below w.heap.size w w'))
 case atStart => exact ⟨(([] : List (S28))), (0), (by first | rfl | (simp; done) | (simp [*]; done)), H', ⟨Nat.le_refl _⟩, ⟨by first | exact Kd.R_nil _ _ _ _ _ | exact Kd.N_nil _ _ _ _ _ | exact Kd.V_nil _ _ _ _ _ | exact Kd.Q_nil _ _ _ _ _ | exact Kd.S_nil _ _ _ _ _⟩, ⟨by (with_reducible repeat (first | refine blk_drewN ?_ _ | refine blk_drew ?_ | refine blk_alloc ?_ _)); exact BK343.out⟩, ⟨by repeat (with_reducible first | exact HB.out | apply pw_below_drewN | apply below_drew1 | refine below_set ?_ GE343.out)⟩⟩
 case round =>
  clear H'
  try clear c1; try clear c2; try clear p2
  obtain ⟨x5_1, x6_1, rfl, HA, HK1, HO_5, BK343, HB⟩ := hrel
  cases gk with
  | zero => exact absurd HA.out (by simp [watchmanref08_Of.l0])
  | succ k1 =>
   have H := HA.out
   clear HA
   simp only [watchmanref08_Of.l0] at H
   by_cases c4 : x6_1 < (l0_2.length : Int)
   ·rw [if_pos c4] at H
    have c4b0 : decide (x6_1 < (l0_2.length : Int)) = true := decide_eq_true c4
    clear c4
    have H' := Aside0.mk H
    clear H
    have hcz5_0 : wr.cell? ⟨gb343, 0, none⟩ = some (.int .i64 a0_0) := (blk_cell BK343.out 0).trans rfl
    have hcz5_1 : wr.cell? ⟨gb343, 1, none⟩ = some (.int .i64 a0_1) := (blk_cell BK343.out 1).trans rfl
    have hcz5_2 : wr.cell? ⟨gb343, 2, none⟩ = some (.slice A0_2 l0_2.length c0_2) := (blk_cell BK343.out 2).trans rfl
    have hfz5_0 := blk_frozen BK343.out 0
    have hfz5_1 := blk_frozen BK343.out 1
    have hfz5_2 := blk_frozen BK343.out 2
    go_wp2
    repeat (go_quiet (fail); try go_wp2)
    go_loopg [7, 8] k1 (fun kq v7 v8 w' => ∃ (x7_2 : Bool) (x8_2 : Int), v7 = .bool x7_2 ∧ v8 = .int .i64 x8_2 ∧ Aside0 (watchmanref08_Of.l1 kq l1 x5_1 x6_1 x7_2 x8_2 a0_0 a0_1 l0_2 = some r) ∧ Aside0 (kq ≤ k1) ∧ Aside0 (Kd.R k28 28 w' w.heap.size (fun _ => True) u5 x5_1) ∧ Aside0 (w'.heap[gb343]? = some (.cells #[.int .i64 a0_0, .int .i64 a0_1, (.slice A0_2 l0_2.length c0_2)] 24 (0, 0))) ∧ Aside0 (Below w.heap.size w w'))
    case atStart => exact ⟨(false), (0), (by first | rfl | (simp; done) | (simp [*]; done)), (by first | rfl | (simp; done) | (simp [*]; done)), H', ⟨Nat.le_refl _⟩, ⟨by (with_reducible repeat (first | apply Kd.R_alloc | apply Kd.R_drewN | apply Kd.R_drew)); exact HO_5.out⟩, ⟨by (with_reducible repeat (first | refine blk_drewN ?_ _ | refine blk_drew ?_ | refine blk_alloc ?_ _)); exact BK343.out⟩, ⟨by repeat (with_reducible first | exact HB.out | apply pw_below_drewN | apply below_drew1 | refine below_set ?_ GE343.out)⟩⟩
    case round =>
     clear H'
     try clear c1; try clear c2; try clear p2; try clear c4; try clear c4b0; try clear hcz5_0; try clear hcz5_1; try clear hcz5_2; try clear hfz5_0; try clear hfz5_1; try clear hfz5_2; try clear p2
     obtain ⟨x7_2, x8_2, rfl, rfl, HA, HK2, HO_5, BK343, HB⟩ := hrel
     cases gk with
     | zero => exact absurd HA.out (by simp [watchmanref08_Of.l1])
     | succ k2 =>
      have H := HA.out
      clear HA
      simp only [watchmanref08_Of.l1] at H
      by_cases c6 : x8_2 < (l1.length : Int)
      ·rw [if_pos c6] at H
       have c6b0 : decide (x8_2 < (l1.length : Int)) = true := decide_eq_true c6
       clear c6
       by_cases c7 : x7_2 = true
       ·subst c7
        rw [if_pos rfl] at H; try dsimp only at H
        have H' := Aside0.mk H
        clear H
        go_wp2
        repeat (go_quiet (fail); try go_wp2)
        go_roundg k2
        case measure => have := HK1.out; have := HK2.out; omega
        case rel => exact ⟨(true), (wrap64 (x8_2 + 1)), (by first | rfl | (simp; done) | (simp [*]; done)), (by first | rfl | (simp; done) | (simp [*]; done)), H', ⟨by have := HK1.out; have := HK2.out; omega⟩, ⟨by (with_reducible repeat (first | apply Kd.R_alloc | apply Kd.R_drewN | apply Kd.R_drew)); exact HO_5.out⟩, ⟨by (with_reducible repeat (first | refine blk_drewN ?_ _ | refine blk_drew ?_ | refine blk_alloc ?_ _)); exact BK343.out⟩, ⟨by repeat (with_reducible first | exact HB.out | apply pw_below_drewN | apply below_drew1 | refine below_set ?_ GE343.out)⟩⟩
       ·replace c7 := Bool.eq_false_iff.mpr c7
        subst c7
        rw [if_neg (show ¬ (false = true) by decide)] at H; try dsimp only at H
        by_cases c8 : 0 ≤ x8_2
        ·rw [if_pos c8] at H
         have c8b0 : decide (0 ≤ x8_2) = true := decide_eq_true c8
         clear c8
         by_cases c9 : 0 ≤ x6_1
         ·rw [if_pos c9] at H
          have c9b0 : decide (0 ≤ x6_1) = true := decide_eq_true c9
          clear c9
          by_cases c10 : x6_1 < (l0_2.length : Int)
          ·rw [if_pos c10] at H
           have c10b0 : decide (x6_1 < (l0_2.length : Int)) = true := decide_eq_true c10
           clear c10
           have H' := Aside0.mk H
           clear H
           have p344 : 0 ≤ (x8_2 : Int) := of_decide_eq_true (by first | (with_reducible assumption) | assumption)
           have q344 : x8_2 < (l1.length : Int) := of_decide_eq_true (by first | (with_reducible assumption) | assumption)
           obtain ⟨ad344, e344, hx344_0⟩ := Kd.at_int HR1.out x8_2 p344 q344
           cases e344
           replace hx344_0 := (HB.out.cell (World.block_lt_of_cell? w _ hx344_0)).trans hx344_0
           replace p344 := eq_true p344
           replace q344 := eq_true q344
           have hcz11_0 : wr.cell? ⟨gb343, 0, none⟩ = some (.int .i64 a0_0) := (blk_cell BK343.out 0).trans rfl
           have hcz11_1 : wr.cell? ⟨gb343, 1, none⟩ = some (.int .i64 a0_1) := (blk_cell BK343.out 1).trans rfl
           have hcz11_2 : wr.cell? ⟨gb343, 2, none⟩ = some (.slice A0_2 l0_2.length c0_2) := (blk_cell BK343.out 2).trans rfl
           have hfz11_0 := blk_frozen BK343.out 0
           have hfz11_1 := blk_frozen BK343.out 1
           have hfz11_2 := blk_frozen BK343.out 2
           have p345 : 0 ≤ (x6_1 : Int) := of_decide_eq_true (by first | (with_reducible assumption) | assumption)
           have q345 : x6_1 < (l0_2.length : Int) := of_decide_eq_true (by first | (with_reducible assumption) | assumption)
           obtain ⟨ad345, e345, hx345_0, hx345_1, hx345_2, hx345_3, hx345_4, hx345_5⟩ := at_T28 HR0_2.out x6_1 p345 q345
           cases e345
           replace hx345_0 := (HB.out.cell (World.block_lt_of_cell? w _ hx345_0)).trans hx345_0
           replace hx345_1 := (HB.out.cell (World.block_lt_of_cell? w _ hx345_1)).trans hx345_1
           replace hx345_2 := (HB.out.cell (World.block_lt_of_cell? w _ hx345_2)).trans hx345_2
           replace hx345_3 := (HB.out.cell (World.block_lt_of_cell? w _ hx345_3)).trans hx345_3
           replace hx345_4 := (HB.out.cell (World.block_lt_of_cell? w _ hx345_4)).trans hx345_4
           replace hx345_5 := (HB.out.cell (World.block_lt_of_cell? w _ hx345_5)).trans hx345_5
           replace p345 := eq_true p345
           replace q345 := eq_true q345
           go_wp2
           repeat (go_quiet (fail); try go_wp2)
           go_roundg k2
           case measure => have := HK1.out; have := HK2.out; omega
           case rel => exact ⟨(((rd l1 x8_2) == ((rd_T28 l0_2 x6_1).f0.f0))), (wrap64 (x8_2 + 1)), (by first | rfl | (simp; done) | (simp [*]; done)), (by first | rfl | (simp; done) | (simp [*]; done)), H', ⟨by have := HK1.out; have := HK2.out; omega⟩, ⟨by (with_reducible repeat (first | apply Kd.R_alloc | apply Kd.R_drewN | apply Kd.R_drew)); exact HO_5.out⟩, ⟨by (with_reducible repeat (first | refine blk_drewN ?_ _ | refine blk_drew ?_ | refine blk_alloc ?_ _)); exact BK343.out⟩, ⟨by repeat (with_reducible first | exact HB.out | apply pw_below_drewN | apply below_drew1 | refine below_set ?_ GE343.out)⟩⟩
          ·rw [if_neg c10] at H
           exact absurd H (by simp)
         ·rw [if_neg c9] at H
          exact absurd H (by simp)
        ·rw [if_neg c8] at H
         exact absurd H (by simp)
      ·rw [if_neg c6] at H
       have c6b0 : decide (x8_2 < (l1.length : Int)) = false := decide_eq_false c6
       clear c6
       by_cases c12 : x7_2 = true
       ·subst c12
        rw [if_pos rfl] at H; try dsimp only at H
        by_cases c13 : 0 ≤ x6_1
        ·rw [if_pos c13] at H
         have c13b0 : decide (0 ≤ x6_1) = true := decide_eq_true c13
         clear c13
         by_cases c14 : x6_1 < (l0_2.length : Int)
         ·rw [if_pos c14] at H
          have c14b0 : decide (x6_1 < (l0_2.length : Int)) = true := decide_eq_true c14
          clear c14
          by_cases c15 : x5_1.length < 2932031007402
          ·rw [if_pos c15] at H
           have LMc15 := Aside0.mk c15
           clear c15
           obtain ⟨y347, hy347⟩ : ∃ y_ : List (S28), y_ = (x5_1 ++ [(⟨(⟨(rd_T28 l0_2 x6_1).f0.f0, (rd_T28 l0_2 x6_1).f0.f1⟩ : S26), (rd_T28 l0_2 x6_1).f1, (rd_T28 l0_2 x6_1).f2, (rd_T28 l0_2 x6_1).f3, (rd_T28 l0_2 x6_1).f4⟩ : S28)]) := ⟨_, rfl⟩
           replace H : (watchmanref08_Of.l0 k2 l1 y347 (wrap64 (x6_1 + 1)) a0_0 a0_1 l0_2) = some r := by first | (rw [hy347]; with_reducible exact H) | (have H2_ := (Option.bind_some _ _).symm.trans H; rw [hy347]; with_reducible exact H2_) | (have H2_ := (Option.bind_some _ _).symm.trans H; with_reducible exact H2_) | with_reducible exact H | (rw [hy347]; exact H) | exact H
           have Ny347 := Aside0.mk hy347
           clear hy347
           have H' := Aside0.mk H
           clear H
           have hcz16_0 : wr.cell? ⟨gb343, 0, none⟩ = some (.int .i64 a0_0) := (blk_cell BK343.out 0).trans rfl
           have hcz16_1 : wr.cell? ⟨gb343, 1, none⟩ = some (.int .i64 a0_1) := (blk_cell BK343.out 1).trans rfl
           have hcz16_2 : wr.cell? ⟨gb343, 2, none⟩ = some (.slice A0_2 l0_2.length c0_2) := (blk_cell BK343.out 2).trans rfl
           have hfz16_0 := blk_frozen BK343.out 0
           have hfz16_1 := blk_frozen BK343.out 1
           have hfz16_2 := blk_frozen BK343.out 2
           have p346 : 0 ≤ (x6_1 : Int) := of_decide_eq_true (by first | (with_reducible assumption) | assumption)
           have q346 : x6_1 < (l0_2.length : Int) := of_decide_eq_true (by first | (with_reducible assumption) | assumption)
           obtain ⟨ad346, e346, hx346_0, hx346_1, hx346_2, hx346_3, hx346_4, hx346_5⟩ := at_T28 HR0_2.out x6_1 p346 q346
           cases e346
           replace hx346_0 := (HB.out.cell (World.block_lt_of_cell? w _ hx346_0)).trans hx346_0
           replace hx346_1 := (HB.out.cell (World.block_lt_of_cell? w _ hx346_1)).trans hx346_1
           replace hx346_2 := (HB.out.cell (World.block_lt_of_cell? w _ hx346_2)).trans hx346_2
           replace hx346_3 := (HB.out.cell (World.block_lt_of_cell? w _ hx346_3)).trans hx346_3
           replace hx346_4 := (HB.out.cell (World.block_lt_of_cell? w _ hx346_4)).trans hx346_4
           replace hx346_5 := (HB.out.cell (World.block_lt_of_cell? w _ hx346_5)).trans hx346_5
           replace p346 := eq_true p346
           replace q346 := eq_true q346
           go_wp2_with (first | ((with_reducible refine gate_builtin (b := .append) (xs := #[.tmp 38, .tmp 44]) rfl ?_); at_builtin; refine Kd.R_append k28 (w0 := w) w.heap.size rfl (.tmp 38) (.tmp 44) 22 28 (.agg #[(.int .i64 0), (.int .i64 0), (.int .i64 0), (.int .i64 0), (.int .i64 0), (.int .i64 0)]) 48 rfl Try.underlying22 info28 rfl (by decide) (by omega) u5 x5_1 (⟨(⟨(rd_T28 l0_2 x6_1).f0.f0, (rd_T28 l0_2 x6_1).f0.f1⟩ : S26), (rd_T28 l0_2 x6_1).f1, (rd_T28 l0_2 x6_1).f2, (rd_T28 l0_2 x6_1).f3, (rd_T28 l0_2 x6_1).f4⟩ : S28) [.int .i64 ((rd_T28 l0_2 x6_1).f0.f0), .int .i64 ((rd_T28 l0_2 x6_1).f0.f1), .int .i64 ((rd_T28 l0_2 x6_1).f1), .int .i64 ((rd_T28 l0_2 x6_1).f2), .int .i64 ((rd_T28 l0_2 x6_1).f3), .int .i64 ((rd_T28 l0_2 x6_1).f4)] (fun _ => True) (fun _ => False) rfl rfl ?aP (fun _ hk => hk.elim) ?aF ?aO ?aB ?aS ?aL ?_; (case aP => exact k28_mkM _ _ _ (⟨(⟨(rd_T28 l0_2 x6_1).f0.f0, (rd_T28 l0_2 x6_1).f0.f1⟩ : S26), (rd_T28 l0_2 x6_1).f1, (rd_T28 l0_2 x6_1).f2, (rd_T28 l0_2 x6_1).f3, (rd_T28 l0_2 x6_1).f4⟩ : S28)); (case aB => exact (by repeat (with_reducible first | exact HB.out | apply pw_below_drewN | apply below_drew1 | refine below_set ?_ GE343.out))); (case aF => exact (fun _ _ => trivial)); (case aO => exact (HO_5.out)); (case aS => exact (below_size (by repeat (with_reducible first | exact HB.out | apply pw_below_drewN | apply below_drew1 | refine below_set ?_ GE343.out)))); (case aL => have := LMc15.out; omega); intro v348 w17 ho hb hg hat; rw [← Ny347.out] at ho; replace BK343 := Aside0.mk (blk_grown (g := gb343) (o := .cells #[.int .i64 a0_0, .int .i64 a0_1, .slice (some ad346) l0_2.length c0_2] 24 (0, 0)) BK343.out hg (Kd.R_ne HO_5.out BK343.out (by decide))); replace HB := Aside0.mk (hb); have HO349 := Aside0.mk (ho); clear HO_5; clear ho hb hg hat))
           go_roundg k2
           case measure => have := HK1.out; have := HK2.out; omega
           case rel => exact ⟨(y347), (wrap64 (x6_1 + 1)), (by first | rfl | (simp; done) | (simp [*]; done)), H', ⟨by have := HK1.out; have := HK2.out; omega⟩, ⟨by (with_reducible repeat (first | apply Kd.R_alloc | apply Kd.R_drewN | apply Kd.R_drew)); exact HO349.out⟩, ⟨by (with_reducible repeat (first | refine blk_drewN ?_ _ | refine blk_drew ?_ | refine blk_alloc ?_ _)); exact BK343.out⟩, ⟨by repeat (with_reducible first | exact HB.out | apply pw_below_drewN | apply below_drew1 | refine below_set ?_ GE343.out)⟩⟩
          ·rw [if_neg c15] at H
           exact absurd H (by simp)
         ·rw [if_neg c14] at H
          exact absurd H (by simp)
        ·rw [if_neg c13] at H
         exact absurd H (by simp)
       ·replace c12 := Bool.eq_false_iff.mpr c12
        subst c12
        rw [if_neg (show ¬ (false = true) by decide)] at H; try dsimp only at H
        have H' := Aside0.mk H
        clear H
        go_wp2
        repeat (go_quiet (fail); try go_wp2)
        go_roundg k2
        case measure => have := HK1.out; have := HK2.out; omega
        case rel => exact ⟨(x5_1), (wrap64 (x6_1 + 1)), (by first | rfl | (simp; done) | (simp [*]; done)), H', ⟨by have := HK1.out; have := HK2.out; omega⟩, ⟨by (with_reducible repeat (first | apply Kd.R_alloc | apply Kd.R_drewN | apply Kd.R_drew)); exact HO_5.out⟩, ⟨by (with_reducible repeat (first | refine blk_drewN ?_ _ | refine blk_drew ?_ | refine blk_alloc ?_ _)); exact BK343.out⟩, ⟨by repeat (with_reducible first | exact HB.out | apply pw_below_drewN | apply below_drew1 | refine below_set ?_ GE343.out)⟩⟩
   ·rw [if_neg c4] at H
    have c4b0 : decide (x6_1 < (l0_2.length : Int)) = false := decide_eq_false c4
    clear c4
    obtain rfl := Option.some.inj H
    have hcz18_0 : wr.cell? ⟨gb343, 0, none⟩ = some (.int .i64 a0_0) := (blk_cell BK343.out 0).trans rfl
    have hcz18_1 : wr.cell? ⟨gb343, 1, none⟩ = some (.int .i64 a0_1) := (blk_cell BK343.out 1).trans rfl
    have hcz18_2 : wr.cell? ⟨gb343, 2, none⟩ = some (.slice A0_2 l0_2.length c0_2) := (blk_cell BK343.out 2).trans rfl
    have hfz18_0 := blk_frozen BK343.out 0
    have hfz18_1 := blk_frozen BK343.out 1
    have hfz18_2 := blk_frozen BK343.out 2
    go_wp2
    repeat (go_quiet (fail); try go_wp2)
    go_ret
    exact ⟨_, by first | rfl | (simp [errW_none, errW_some] <;> rfl) | (simp [*, errW_none, errW_some] <;> rfl), by (with_reducible repeat (first | apply Kd.R_alloc | apply Kd.R_drewN | apply Kd.R_drew)); exact HO_5.out, by repeat (with_reducible first | exact HB.out | apply pw_below_drewN | apply below_drew1 | refine below_set ?_ GE343.out)⟩

/-! ### watchmanlaw08_smudge: function 30 -/
def watchmanlaw08_smudge.l0 : Nat → List (S28) → Int → Option ((List (S28)))
 | 0, _, _ => none
 | k + 1, x0, x2 => if x2 < (x0.length : Int) then (if 0 ≤ x2 then (watchmanlaw08_smudge.l0 k (x0.set (x2 : Int).toNat (⟨(⟨(rd_T28 x0 x2).f0.f0, (rd_T28 x0 x2).f0.f1⟩ : S26), (rd_T28 x0 x2).f1, 77, (rd_T28 x0 x2).f3, (rd_T28 x0 x2).f4⟩ : S28)) (wrap64 (x2 + 1))) else (none)) else (some x0)
def watchmanlaw08_smudge.f (k : Nat) (l0 : List (S28)) : Option ((List (S28))) := watchmanlaw08_smudge.l0 k l0 0
theorem watchmanlaw08_smudge.mono_l : ∀ k, (∀ y0 y1, LeO (watchmanlaw08_smudge.l0 k y0 y1) (watchmanlaw08_smudge.l0 (k + 1) y0 y1))
 | 0 => fun _ _ r h => by simp [watchmanlaw08_smudge.l0] at h
 | k + 1 => by
  have ih0 := watchmanlaw08_smudge.mono_l k
  ·intro y0 y1
   unfold watchmanlaw08_smudge.l0
   repeat' first
   | (with_reducible exact ih0 _ _)
   | (with_reducible exact LeO.refl _)
   | (with_reducible exact LeO.none _)
   | (with_reducible refine LeO.ite ?_ ?_)
   | (with_reducible refine LeO.bind ?_ (fun _ => ?_))
   | exact ih0 _ _
   | exact LeO.none _
   | refine LeO.ite ?_ ?_
   | refine LeO.bind ?_ (fun _ => ?_)
theorem watchmanlaw08_smudge.mono : ∀ a0 k, LeO (watchmanlaw08_smudge.f k a0) (watchmanlaw08_smudge.f (k + 1) a0) := by
 intro a0 k
 have ih0 := watchmanlaw08_smudge.mono_l k
 unfold watchmanlaw08_smudge.f
 repeat' first
   | (with_reducible exact ih0 _ _)
   | (with_reducible exact LeO.refl _)
   | (with_reducible exact LeO.none _)
   | (with_reducible refine LeO.ite ?_ ?_)
   | (with_reducible refine LeO.bind ?_ (fun _ => ?_))
   | exact ih0 _ _
   | exact LeO.none _
   | refine LeO.ite ?_ ?_
   | refine LeO.bind ?_ (fun _ => ?_)
set_option maxHeartbeats 8000000 in
set_option maxRecDepth 100000 in
theorem watchmanlaw08_smudge.calls (k : Nat) (P0_ : Nat → Prop) (u9000_ : Value) (l0 : List (S28)) (r : List (S28)) (w0 w : World) (hB : Below w0.heap.size w0 w) (ho0 : Kd.R k28 28 w w0.heap.size P0_ u9000_ l0) (h : watchmanlaw08_smudge.f k l0 = some r) :
  Calls Try.prog 30 #[u9000_] w fun e w' => e = .returned (.tuple #[]) ∧ Kd.R k28 28 w' w0.heap.size (fun k_ => (P0_ k_ ∨ w.heap.size ≤ k_)) u9000_ r ∧ Below w0.heap.size w0 w' ∧ Kept w w' (fun k_ => P0_ k_) := by
 have HO0 := Aside0.mk (show Kd.R k28 28 w w0.heap.size (fun k_ => (P0_ k_ ∨ w.heap.size ≤ k_)) u9000_ l0 from Kd.R_mono ho0 (fun k_ hk => (.inl hk)))
 have HK := Aside0.mk (Kept.refl w (fun k_ => P0_ k_))
 have HW0 := Aside0.mk hB.size
 have HB := Aside0.mk hB
 clear hB
 have H : (watchmanlaw08_smudge.l0 k l0 0) = some r := h
 clear h
 have H' := Aside0.mk H
 clear H
 go_enter Try.func30, Try.ntmps30
 go_wp2
 go_loopg [2] k (fun kq v2 w' => ∃ (x0_1 : List (S28)) (x2_1 : Int), v2 = .int .i64 x2_1 ∧ Aside0 (watchmanlaw08_smudge.l0 kq x0_1 x2_1 = some r) ∧ Aside0 (kq ≤ k) ∧ Aside0 (Kd.R k28 28 w' w0.heap.size (fun k_ => (P0_ k_ ∨ w.heap.size ≤ k_)) u9000_ x0_1) ∧ Aside0 (Kept w w' (fun k_ => P0_ k_)) ∧ Aside0 (Below w0.heap.size w0 w'))
 case atStart => exact ⟨(l0), (0), (by first | rfl | (simp; done) | (simp [*]; done)), H', ⟨Nat.le_refl _⟩, ⟨by (with_reducible repeat (first | apply Kd.R_alloc | apply Kd.R_drewN | apply Kd.R_drew)); exact HO0.out⟩, ⟨by repeat (first | (with_reducible first | exact HK.out | apply Kept.alloc | apply Kept.drewN | apply Kept.drew) | exact HK.out)⟩, ⟨by repeat (with_reducible first | exact HB.out | apply pw_below_drewN | apply below_drew1)⟩⟩
 case round =>
  clear H'
  obtain ⟨x0_1, x2_1, rfl, HA, HK1, HO_0, HK, HB⟩ := hrel
  cases gk with
  | zero => exact absurd HA.out (by simp [watchmanlaw08_smudge.l0])
  | succ k1 =>
   have H := HA.out
   clear HA
   simp only [watchmanlaw08_smudge.l0] at H
   by_cases c2 : x2_1 < (x0_1.length : Int)
   ·rw [if_pos c2] at H
    have c2b0 : decide (x2_1 < (x0_1.length : Int)) = true := decide_eq_true c2
    clear c2
    by_cases c3 : 0 ≤ x2_1
    ·rw [if_pos c3] at H
     have c3b0 : decide (0 ≤ x2_1) = true := decide_eq_true c3
     clear c3
     obtain ⟨y350, hy350⟩ : ∃ y_ : List (S28), y_ = (x0_1.set (x2_1 : Int).toNat (⟨(⟨(rd_T28 x0_1 x2_1).f0.f0, (rd_T28 x0_1 x2_1).f0.f1⟩ : S26), (rd_T28 x0_1 x2_1).f1, 77, (rd_T28 x0_1 x2_1).f3, (rd_T28 x0_1 x2_1).f4⟩ : S28)) := ⟨_, rfl⟩
     replace H : (watchmanlaw08_smudge.l0 k1 y350 (wrap64 (x2_1 + 1))) = some r := by first | (rw [hy350]; with_reducible exact H) | (have H2_ := (Option.bind_some _ _).symm.trans H; rw [hy350]; with_reducible exact H2_) | (have H2_ := (Option.bind_some _ _).symm.trans H; with_reducible exact H2_) | with_reducible exact H | (rw [hy350]; exact H) | exact H
     have Ny350 := Aside0.mk hy350
     clear hy350
     have H' := Aside0.mk H
     clear H
     obtain ⟨Ao5, co5, eo5⟩ := Kd.R_slice HO_0.out
     subst eo5
     have p4 : 0 ≤ (x2_1 : Int) := of_decide_eq_true (by first | (with_reducible assumption) | assumption)
     have q4 : (x2_1 : Int) < ((x0_1.length : Int) : Int) := of_decide_eq_true (by first | (with_reducible assumption) | assumption)
     obtain ⟨go4, co4, eo4, gb4, gl4, cl4, HG4⟩ := Kd.R_form HO_0.out (by omega)
     (first | cases eo4 | (injection eo4 with ea_ en_ ec_; (first | subst ea_ | (injection ea_ with ea_; subst ea_)); subst ec_; clear en_))
     have GB4 := Aside0.mk gb4
     have GG4 := Aside0.mk HG4
     clear gb4 gl4 HG4
     have HMgo4 := Aside0.mk (show (P0_ go4 ∨ w.heap.size ≤ go4) from (HO_0.out.1 _ rfl))
     obtain ⟨ce4, hcl4, hM4, hcc4, hfr4⟩ := Kd.R_elem HO_0.out z28 (x2_1 : Int) p4 q4
     obtain rfl := k28_openM hM4
     have hx4_0 : wr.cell? ⟨go4, (x2_1 : Int).toNat * 6, none⟩ = some (.int .i64 ((rd_T28 x0_1 x2_1).f0.f0)) := hcc4 0 _ rfl
     have hx4_1 : wr.cell? ⟨go4, (x2_1 : Int).toNat * 6 + 1, none⟩ = some (.int .i64 ((rd_T28 x0_1 x2_1).f0.f1)) := hcc4 1 _ rfl
     have hx4_2 : wr.cell? ⟨go4, (x2_1 : Int).toNat * 6 + 2, none⟩ = some (.int .i64 ((rd_T28 x0_1 x2_1).f1)) := hcc4 2 _ rfl
     have hx4_3 : wr.cell? ⟨go4, (x2_1 : Int).toNat * 6 + 3, none⟩ = some (.int .i64 ((rd_T28 x0_1 x2_1).f2)) := hcc4 3 _ rfl
     have hx4_4 : wr.cell? ⟨go4, (x2_1 : Int).toNat * 6 + 4, none⟩ = some (.int .i64 ((rd_T28 x0_1 x2_1).f3)) := hcc4 4 _ rfl
     have hx4_5 : wr.cell? ⟨go4, (x2_1 : Int).toNat * 6 + 5, none⟩ = some (.int .i64 ((rd_T28 x0_1 x2_1).f4)) := hcc4 5 _ rfl
     have hf4_0 : wr.frozen? ⟨go4, (x2_1 : Int).toNat * 6, none⟩ = false := hfr4 0
     have hf4_1 : wr.frozen? ⟨go4, (x2_1 : Int).toNat * 6 + 1, none⟩ = false := hfr4 1
     have hf4_2 : wr.frozen? ⟨go4, (x2_1 : Int).toNat * 6 + 2, none⟩ = false := hfr4 2
     have hf4_3 : wr.frozen? ⟨go4, (x2_1 : Int).toNat * 6 + 3, none⟩ = false := hfr4 3
     have hf4_4 : wr.frozen? ⟨go4, (x2_1 : Int).toNat * 6 + 4, none⟩ = false := hfr4 4
     have hf4_5 : wr.frozen? ⟨go4, (x2_1 : Int).toNat * 6 + 5, none⟩ = false := hfr4 5
     clear hcl4 hcc4 hfr4 hM4
     replace p4 := eq_true p4
     replace q4 := eq_true q4
     have HX6 := Aside0.mk (show Kd.R k28 28 wr w0.heap.size (fun k_ => (P0_ k_ ∨ w.heap.size ≤ k_)) (.slice (some ⟨go4, 0, none⟩) x0_1.length co5) x0_1 from (HO_0.out))
     obtain ⟨ce6, hcl6, hM6, hcc6, hfr6⟩ := Kd.R_elem HX6.out z28 (x2_1 : Int) (of_decide_eq_true (by first | (with_reducible assumption) | assumption)) (by have h_ : (x2_1 : Int) < ((x0_1.length : Int) : Int) := of_decide_eq_true (by first | (with_reducible assumption) | assumption); first | exact h_ | (have e_ := (Kd.R_reads' HO_0.out).1; omega) | simpa using h_)
     obtain rfl := k28_openM hM6
     have HP6 := Kd.R_seg HX6.out (x2_1 : Int) (of_decide_eq_true (by first | (with_reducible assumption) | assumption)) (by have h_ : (x2_1 : Int) < ((x0_1.length : Int) : Int) := of_decide_eq_true (by first | (with_reducible assumption) | assumption); first | exact h_ | (have e_ := (Kd.R_reads' HO_0.out).1; omega) | simpa using h_) (seg := [.int .i64 77]) (j := 3) hcl6 hcc6 (show 4 ≤ 6 from by decide) (x' := (⟨(⟨(rd_T28 x0_1 x2_1).f0.f0, (rd_T28 x0_1 x2_1).f0.f1⟩ : S26), (rd_T28 x0_1 x2_1).f1, 77, (rd_T28 x0_1 x2_1).f3, (rd_T28 x0_1 x2_1).f4⟩ : S28)) (k28_mkM _ _ _ (⟨(⟨(rd_T28 x0_1 x2_1).f0.f0, (rd_T28 x0_1 x2_1).f0.f1⟩ : S26), (rd_T28 x0_1 x2_1).f1, 77, (rd_T28 x0_1 x2_1).f3, (rd_T28 x0_1 x2_1).f4⟩ : S28) ) (fun _ hk => hk)
     have hx6_3 := hcc6 3 _ rfl
     (try simp only [show (k28).sz = 6 from rfl, Nat.mul_one, Nat.add_zero] at hx6_3)
     have hf6_3 := hfr6 3
     (try simp only [show (k28).sz = 6 from rfl, Nat.mul_one, Nat.add_zero] at hf6_3)
     clear hcl6 hcc6 hfr6 hM6
     go_wp2_with (first | ((with_reducible refine gate_store (t := 3) (p := 12) rfl ?_); refine store_event (t := 3) (p := 12) (v := ?vo_w7) (w1 := (wr.setCell ⟨go4, (x2_1 : Int).toNat * 6 + 3, none⟩ (.int .i64 77))) ?hg ?ho ?hn ?hr ?_; (case ho => rfl); (case hg => rfl); (case hn => rfl); (case hr => first | (go_simp; done) | (go_simp; rfl)); intro w7 hw; have hg : wr.grownBy w7 (some go4) := (by rw [hw]; exact HP6.2); have hp_ : Kd.R k28 28 w7 w0.heap.size (fun k_ => (P0_ k_ ∨ w.heap.size ≤ k_)) (.slice (some ⟨go4, 0, none⟩) x0_1.length co5) y350 := (by rw [hw, Ny350.out]; exact HP6.1); clear HP6; replace HB := Aside0.mk ((by rw [hw]; exact below_set (HB.out) GB4.out : Below w0.heap.size w0 w7)); replace HK := Aside0.mk (Kept.of_grown (S := (fun k_ => P0_ k_)) hg (by repeat (first | (with_reducible first | exact HK.out | apply Kept.alloc | apply Kept.drewN | apply Kept.drew) | exact HK.out)) (fun k_ e_ => (HO_0.out.1 k_ e_))); replace HO_0 := Aside0.mk (hp_); clear hg hw hp_))
     go_roundg k1
     case measure => have := HK1.out; omega
     case rel => exact ⟨(y350), (wrap64 (x2_1 + 1)), (by first | rfl | (simp; done) | (simp [*]; done)), H', ⟨by have := HK1.out; omega⟩, ⟨by (with_reducible repeat (first | apply Kd.R_alloc | apply Kd.R_drewN | apply Kd.R_drew)); exact HO_0.out⟩, ⟨by repeat (first | (with_reducible first | exact HK.out | apply Kept.alloc | apply Kept.drewN | apply Kept.drew) | exact HK.out)⟩, ⟨by repeat (with_reducible first | exact HB.out | apply pw_below_drewN | apply below_drew1)⟩⟩
    ·rw [if_neg c3] at H
     exact absurd H (by simp)
   ·rw [if_neg c2] at H
    have c2b0 : decide (x2_1 < (x0_1.length : Int)) = false := decide_eq_false c2
    clear c2
    obtain rfl := Option.some.inj H
    obtain ⟨Ao8, co8, eo8⟩ := Kd.R_slice HO_0.out
    subst eo8
    go_wp2
    first | go_end0 | ((try simp only [Exit.inBlock, Exit.then]); refine bodyPost_ret (results_none rfl _ _ _) rfl ?_)
    exact ⟨by first | rfl | (simp [errW_none, errW_some] <;> rfl) | (simp [*, errW_none, errW_some] <;> rfl), by (with_reducible repeat (first | apply Kd.R_alloc | apply Kd.R_drewN | apply Kd.R_drew)); exact HO_0.out, by repeat (with_reducible first | exact HB.out | apply pw_below_drewN | apply below_drew1), by repeat (first | (with_reducible first | exact HK.out | apply Kept.alloc | apply Kept.drewN | apply Kept.drew) | exact HK.out)⟩

end Go.Proofs.Ytcfpbmdndapeaaa.F
