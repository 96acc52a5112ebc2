-- Written by a program of this session (xprint.py), out of the translation and of contracts proved by hand.
import Derived.Test.YtcfpbmdndapeaaaF0
import Derived.Test.YtcfpbmdndapeaaaF4
import Derived.Test.YtcfpbmdndapeaaaF6
import Derived.Test.YtcfpbmdndapeaaaF8
import Derived.Test.YtcfpbmdndapeaaaF9
namespace Go.Proofs.Ytcfpbmdndapeaaa.F
open Go.RowKit Go.Proofs.YtcfpbmdndapeaaaV.PrintWords Go.Proofs.YtcfpbmdndapeaaaV.PrintLast Go.Proofs.YtcfpbmdndapeaaaV.PrintMore
attribute [local go_sem] max2_int min2_int max_two min_two max_three min_three max_four min_four   -- for this text's walks alone
set_option linter.unusedVariables false
set_option linter.unusedSimpArgs false

/-! ### board_Put: function 15 -/
def board_Put.j0 : Nat → Bool → Int → Int → List (S28) → Int → Int → Int → Int → Int → Int → Option (Int × Int × (List (S28)) × Int)
 | 0, _, _, _, _, _, _, _, _, _, _ => none
 | k + 1, x23, x204000, x204001, x204002, x205000, x205001, x205002, x205003, x205004, x205005 => if x23 = true then (some (0, 0, ([] : List (S28)), 1)) else ((board_open.f x204000 x204001 x204002).bind fun bt208 => ((board_alarms_find.f k bt208.1 x205000 x205001).bind fun bt217 => (if bt217.2 = true then ((board_alarms_with.f k bt208.1 bt217.1 1 (([(⟨(⟨x205000, x205001⟩ : S26), x205002, x205003, x205004, x205005⟩ : S28)] : List (S28)))).bind fun t222 => ((board_sheet_now.f bt208.1 bt208.2.1 bt208.2.2.1 bt208.2.2.2 t222).bind fun bt225 => (some (bt225.1, bt225.2.1, bt225.2.2, 0)))) else (if (x204002.length : Int) = x204000 then (some (0, 0, ([] : List (S28)), 81)) else ((board_alarms_with.f k bt208.1 bt217.1 0 (([(⟨(⟨x205000, x205001⟩ : S26), x205002, x205003, x205004, x205005⟩ : S28)] : List (S28)))).bind fun t233 => ((board_sheet_now.f bt208.1 bt208.2.1 bt208.2.2.1 bt208.2.2.2 t233).bind fun bt236 => (some (bt236.1, bt236.2.1, bt236.2.2, 0))))))))
def board_Put.f (k : Nat) (a0_0 : Int) (a0_1 : Int) (l0_2 : List (S28)) (a1_0 : Int) (a1_1 : Int) (a1_2 : Int) (a1_3 : Int) (a1_4 : Int) (a1_5 : Int) : Option (Int × Int × (List (S28)) × Int) := (board_Is.f k a0_0 a0_1 l0_2).bind fun t206 => (if t206 = true then ((alarm_Is.f a1_0 a1_1 a1_2 a1_3 a1_4 a1_5).bind fun t207 => (if t207 = true then (board_Put.j0 k (decide (a1_4 > a0_1)) a0_0 a0_1 l0_2 a1_0 a1_1 a1_2 a1_3 a1_4 a1_5) else (board_Put.j0 k true a0_0 a0_1 l0_2 a1_0 a1_1 a1_2 a1_3 a1_4 a1_5))) else (board_Put.j0 k true a0_0 a0_1 l0_2 a1_0 a1_1 a1_2 a1_3 a1_4 a1_5))
theorem board_Put.mono_l : ∀ k, (∀ y0 y1 y2 y3 y4 y5 y6 y7 y8 y9, LeO (board_Put.j0 k y0 y1 y2 y3 y4 y5 y6 y7 y8 y9) (board_Put.j0 (k + 1) y0 y1 y2 y3 y4 y5 y6 y7 y8 y9))
 | 0 => fun _ _ _ _ _ _ _ _ _ _ r h => by simp [board_Put.j0] at h
 | k + 1 => by
  have ih0 := board_Put.mono_l k
  ·intro y0 y1 y2 y3 y4 y5 y6 y7 y8 y9
   unfold board_Put.j0
   repeat' first
   | (with_reducible exact ih0 _ _ _ _ _ _ _ _ _ _)
   | (with_reducible exact board_Is.mono _ _ _ _)
   | (with_reducible exact board_alarms_find.mono _ _ _ _)
   | (with_reducible exact board_alarms_with.mono _ _ _ _ _)
   | (with_reducible exact LeO.refl _)
   | (with_reducible exact LeO.none _)
   | (with_reducible refine LeO.ite ?_ ?_)
   | (with_reducible refine LeO.bind ?_ (fun _ => ?_))
   | exact ih0 _ _ _ _ _ _ _ _ _ _
   | exact board_Is.mono _ _ _ _
   | exact board_alarms_find.mono _ _ _ _
   | exact board_alarms_with.mono _ _ _ _ _
   | exact LeO.none _
   | refine LeO.ite ?_ ?_
   | refine LeO.bind ?_ (fun _ => ?_)
theorem board_Put.mono : ∀ a0 a1 a2 a3 a4 a5 a6 a7 a8 k, LeO (board_Put.f k a0 a1 a2 a3 a4 a5 a6 a7 a8) (board_Put.f (k + 1) a0 a1 a2 a3 a4 a5 a6 a7 a8) := by
 intro a0 a1 a2 a3 a4 a5 a6 a7 a8 k
 have ih0 := board_Put.mono_l k
 unfold board_Put.f
 repeat' first
   | (with_reducible exact ih0 _ _ _ _ _ _ _ _ _ _)
   | (with_reducible exact board_Is.mono _ _ _ _)
   | (with_reducible exact board_alarms_find.mono _ _ _ _)
   | (with_reducible exact board_alarms_with.mono _ _ _ _ _)
   | (with_reducible exact LeO.refl _)
   | (with_reducible exact LeO.none _)
   | (with_reducible refine LeO.ite ?_ ?_)
   | (with_reducible refine LeO.bind ?_ (fun _ => ?_))
   | exact ih0 _ _ _ _ _ _ _ _ _ _
   | exact board_Is.mono _ _ _ _
   | exact board_alarms_find.mono _ _ _ _
   | exact board_alarms_with.mono _ _ _ _ _
   | exact LeO.none _
   | refine LeO.ite ?_ ?_
   | refine LeO.bind ?_ (fun _ => ?_)
def board_Put.T6 : Bool × List (List Nat × List Nat) := (true, [([], []), ([], []), ([1], [1]), ([], []), ([], []), ([4], [4]), ([2, 3, 5], [2, 3, 5]), ([0, 6, 6], [0, 6]), ([7, 7, 0, 1, 2, 3, 4, 5, 6, 7], [7]), ([8, 0, 1, 2, 3, 4, 5, 6, 7, 8], [])])
def board_Put.B6 : List Nat := [0, 0, 2, 0, 0, 16, 62, 127, 255, 511]
theorem board_Put.tab6 : rtab .any (opsOf Try.f15 6) = board_Put.T6 := by kernel_rfl
theorem board_Put.bits6 : waitsOk board_Put.T6.2 board_Put.B6 = true := by kernel_rfl
def board_Put.T9 : Bool × List (List Nat × List Nat) := (true, [([], []), ([], []), ([1], [1]), ([], []), ([], []), ([4], [4]), ([2, 3, 5], [2, 3, 5]), ([0, 6, 6], [0, 6]), ([7, 7, 0, 1, 2, 3, 4, 5, 6, 7], [7]), ([8, 0, 1, 2, 3, 4, 5, 6, 7, 8], [])])
def board_Put.B9 : List Nat := [0, 0, 2, 0, 0, 16, 62, 127, 255, 511]
theorem board_Put.tab9 : rtab .any (opsOf Try.f15 9) = board_Put.T9 := by kernel_rfl
theorem board_Put.bits9 : waitsOk board_Put.T9.2 board_Put.B9 = true := by kernel_rfl
set_option maxHeartbeats 8000000 in
set_option maxRecDepth 100000 in
theorem board_Put.calls (k : Nat) (a0_0 : Int) (a0_1 : Int) (A0_2 : Option Addr) (c0_2 : Nat) (l0_2 : List (S28)) (a1_0 : Int) (a1_1 : Int) (a1_2 : Int) (a1_3 : Int) (a1_4 : Int) (a1_5 : Int) (r1 : Int) (r2 : Int) (r3 : List (S28)) (r4 : Int) (w : World) (hr0_2 : Kd.C k28 w A0_2 l0_2.length l0_2) (hc0_2 : l0_2.length ≤ c0_2) (h : board_Put.f k a0_0 a0_1 l0_2 a1_0 a1_1 a1_2 a1_3 a1_4 a1_5 = some (r1, r2, r3, r4)) :
  Calls Try.prog 15 #[.agg #[.int .i64 a0_0, .int .i64 a0_1, .slice A0_2 l0_2.length c0_2], .agg #[.int .i64 a1_0, .int .i64 a1_1, .int .i64 a1_2, .int .i64 a1_3, .int .i64 a1_4, .int .i64 a1_5]] w fun e w' => ∃ v2_ : Value, e = .returned (.tuple #[.agg #[.int .i64 r1, .int .i64 r2, v2_], .int .i64 r4]) ∧ Kd.R k28 28 w' w.heap.size (fun _ => True) v2_ r3 ∧ Below w.heap.size w w' := by
 have hu24 := Try.underlying24
 have hu28 := Try.underlying28
 have hu72 := Try.underlying72
 have hu26 := Try.underlying26
 have HR0_2 := Aside0.mk hr0_2
 have HC0_2 := Aside0.mk hc0_2
 clear hr0_2 hc0_2
 have HB := Aside0.mk (Below.refl w.heap.size w)
 have H : ((board_Is.f k a0_0 a0_1 l0_2).bind fun t206 => (if t206 = true then ((alarm_Is.f a1_0 a1_1 a1_2 a1_3 a1_4 a1_5).bind fun t207 => (if t207 = true then (board_Put.j0 k (decide (a1_4 > a0_1)) a0_0 a0_1 l0_2 a1_0 a1_1 a1_2 a1_3 a1_4 a1_5) else (board_Put.j0 k true a0_0 a0_1 l0_2 a1_0 a1_1 a1_2 a1_3 a1_4 a1_5))) else (board_Put.j0 k true a0_0 a0_1 l0_2 a1_0 a1_1 a1_2 a1_3 a1_4 a1_5))) = some (r1, r2, r3, r4) := h
 clear h
 have HC3 := Aside0.mk H
 clear H
 go_enter Try.func15, Try.ntmps15
 go_upto_region 1 with (first | ((with_reducible refine gate_dst (N := 2) rfl ?_); refine box_event ?hg (N := 2) ?hd (cs := #[.int .i64 a0_0, .int .i64 a0_1, .slice A0_2 l0_2.length c0_2]) (t := 24) ?hr ?_; (case hd => rfl); (case hg => rfl); (case hr => first | (go_simp; done) | (go_simp; rfl)); intro gb203 hg w4 hbox hb; have BK203 := Aside0.mk (hbox); have GW203 := Aside0.mk ((by rw [hg]; exact (below_size HB.out) : w.heap.size ≤ gb203)); have GE203 := Aside0.mk ((by rw [hg]; exact (below_size HB.out) : w.heap.size ≤ gb203)); replace HB := Aside0.mk (below_step HB.out hb); clear hb hbox hg) | ((with_reducible refine gate_dst (N := 3) rfl ?_); refine box_event ?hg (N := 3) ?hd (cs := #[.int .i64 a1_0, .int .i64 a1_1, .int .i64 a1_2, .int .i64 a1_3, .int .i64 a1_4, .int .i64 a1_5]) (t := 28) ?hr ?_; (case hd => rfl); (case hg => rfl); (case hr => first | (go_simp; done) | (go_simp; rfl)); intro gb204 hg w5 hbox hb; have BK204 := Aside0.mk (hbox); have GW204 := Aside0.mk ((by rw [hg]; exact (below_size (by repeat (with_reducible first | exact HB.out | apply pw_below_drewN | apply below_drew1 | refine below_set ?_ GE203.out))) : w.heap.size ≤ gb204)); have GE204 := Aside0.mk ((by rw [hg]; exact (below_size (by repeat (with_reducible first | exact HB.out | apply pw_below_drewN | apply below_drew1 | refine below_set ?_ GE203.out))) : w.heap.size ≤ gb204)); replace HB := Aside0.mk (below_step (by repeat (with_reducible first | exact HB.out | apply pw_below_drewN | apply below_drew1 | refine below_set ?_ GE203.out)) hb); have NB203_204 := Aside0.mk ((by rw [hg]; exact Nat.ne_of_lt (blk_lt BK203.out) : gb203 ≠ gb204)); have NB204_203 := Aside0.mk ((by rw [hg]; exact Nat.ne_of_gt (blk_lt BK203.out) : gb204 ≠ gb203)); replace BK203 := bl_ BK203 hb; clear hb hbox hg) | ((with_reducible refine gate_dst (N := 4) rfl ?_); refine box_event ?hg (N := 4) ?hd (cs := #[.int .i64 0, .int .i64 0, .slice none 0 0]) (t := 24) ?hr ?_; (case hd => rfl); (case hg => rfl); (case hr => first | (go_simp; done) | (go_simp; rfl)); intro gb205 hg w6 hbox hb; have BK205 := Aside0.mk (hbox); have GW205 := Aside0.mk ((by rw [hg]; exact (below_size (by repeat (with_reducible first | exact HB.out | apply pw_below_drewN | apply below_drew1 | refine below_set ?_ (Aside0.out (by assumption))))) : w.heap.size ≤ gb205)); have GE205 := Aside0.mk ((by rw [hg]; exact (below_size (by repeat (with_reducible first | exact HB.out | apply pw_below_drewN | apply below_drew1 | refine below_set ?_ (Aside0.out (by assumption))))) : w.heap.size ≤ gb205)); replace HB := Aside0.mk (below_step (by repeat (with_reducible first | exact HB.out | apply pw_below_drewN | apply below_drew1 | refine below_set ?_ (Aside0.out (by assumption)))) hb); have NB203_205 := Aside0.mk ((by rw [hg]; exact Nat.ne_of_lt (blk_lt BK203.out) : gb203 ≠ gb205)); have NB205_203 := Aside0.mk ((by rw [hg]; exact Nat.ne_of_gt (blk_lt BK203.out) : gb205 ≠ gb203)); replace BK203 := bl_ BK203 hb; have NB204_205 := Aside0.mk ((by rw [hg]; exact Nat.ne_of_lt (blk_lt BK204.out) : gb204 ≠ gb205)); have NB205_204 := Aside0.mk ((by rw [hg]; exact Nat.ne_of_gt (blk_lt BK204.out) : gb205 ≠ gb204)); replace BK204 := bl_ BK204 hb; clear hb hbox hg))
 (try simp only [Act.put, List.setIfInBounds_toArray, List.set_cons_zero, List.set_cons_succ])
 go_cut [23] (fun v23 wc => ∃ (kq : Nat) (x23_2 : Bool), v23 = .bool x23_2 ∧ Aside0 (board_Put.j0 kq x23_2 a0_0 a0_1 l0_2 a1_0 a1_1 a1_2 a1_3 a1_4 a1_5 = some (r1, r2, r3, r4)) ∧ Aside0 (kq ≤ k) ∧ Aside0 (wc.heap[gb203]? = some (.cells #[.int .i64 a0_0, .int .i64 a0_1, (.slice A0_2 l0_2.length c0_2)] 24 (0, 0))) ∧ Aside0 (wc.heap[gb204]? = some (.cells #[.int .i64 a1_0, .int .i64 a1_1, .int .i64 a1_2, .int .i64 a1_3, .int .i64 a1_4, .int .i64 a1_5] 28 (0, 0))) ∧ Aside0 (wc.heap[gb205]? = some (.cells #[.int .i64 0, .int .i64 0, (.slice none 0 0)] 24 (0, 0))) ∧ Aside0 (Below w.heap.size w wc))
 case first =>
  have H := HC3.out
  clear HC3
  replace H := Option.bind_eq_some_iff.mp H
  obtain ⟨t206, A70, H⟩ := H
  try dsimp only at H
  have A7 := Aside0.mk A70
  clear A70
  by_cases c8 : t206 = true
  ·subst c8
   rw [if_pos rfl] at H; try dsimp only at H
   replace H := Option.bind_eq_some_iff.mp H
   obtain ⟨t207, A90, H⟩ := H
   try dsimp only at H
   have A9 := Aside0.mk A90
   clear A90
   by_cases c10 : t207 = true
   ·subst c10
    rw [if_pos rfl] at H; try dsimp only at H
    have H' := Aside0.mk H
    clear H
    have hnb11 := NB203_204.out
    have hnc11 := NB204_203.out
    have hnb12 := NB203_205.out
    have hnc12 := NB205_203.out
    have hcz13_0 : w6.cell? ⟨gb203, 0, none⟩ = some (.int .i64 a0_0) := (blk_cell BK203.out 0).trans rfl
    have hcz13_1 : w6.cell? ⟨gb203, 1, none⟩ = some (.int .i64 a0_1) := (blk_cell BK203.out 1).trans rfl
    have hcz13_2 : w6.cell? ⟨gb203, 2, none⟩ = some (.slice A0_2 l0_2.length c0_2) := (blk_cell BK203.out 2).trans rfl
    have hfz13_0 := blk_frozen BK203.out 0
    have hfz13_1 := blk_frozen BK203.out 1
    have hfz13_2 := blk_frozen BK203.out 2
    go_wp2_with (first | ((with_reducible refine gate_callee (f := 32) rfl ?_); refine goesL_ (some 10) rfl rfl Try.func32 (by kernel_rfl) rfl #[.agg #[.int .i64 a0_0, .int .i64 a0_1, .slice A0_2 l0_2.length c0_2]] rfl (by (try simp only [List.map_toArray, List.map_cons, List.map_nil]); first | done | rfl | (simp only [List.length_drop, List.length_take]; rfl)) ?_; (with_reducible refine (board_Is.calls k a0_0 a0_1 _ _ l0_2 true _ ?side1 ?side2 A7.out).mono ?_); (case side1 => exact (Kd.C_below HR0_2.out HB.out)); (case side2 => exact HC0_2.out); rintro e w14 ⟨rfl, hb⟩; refine ⟨_, rfl, ?_⟩; replace BK203 := bl_ BK203 hb; replace BK204 := bl_ BK204 hb; replace BK205 := bl_ BK205 hb; replace HB := Aside0.mk (below_step (by repeat (with_reducible first | exact HB.out | apply pw_below_drewN | apply below_drew1 | refine below_set ?_ (Aside0.out (by assumption)))) hb); (try clear hb); (try clear hb2); (try clear hk); (try clear hi); have hnb15 := NB204_205.out; have hnc15 := NB205_204.out; have hcz16_0 : w14.cell? ⟨gb204, 0, none⟩ = some (.int .i64 a1_0) := (blk_cell BK204.out 0).trans rfl; have hcz16_1 : w14.cell? ⟨gb204, 1, none⟩ = some (.int .i64 a1_1) := (blk_cell BK204.out 1).trans rfl; have hcz16_2 : w14.cell? ⟨gb204, 2, none⟩ = some (.int .i64 a1_2) := (blk_cell BK204.out 2).trans rfl; have hcz16_3 : w14.cell? ⟨gb204, 3, none⟩ = some (.int .i64 a1_3) := (blk_cell BK204.out 3).trans rfl; have hcz16_4 : w14.cell? ⟨gb204, 4, none⟩ = some (.int .i64 a1_4) := (blk_cell BK204.out 4).trans rfl; have hcz16_5 : w14.cell? ⟨gb204, 5, none⟩ = some (.int .i64 a1_5) := (blk_cell BK204.out 5).trans rfl; have hfz16_0 := blk_frozen BK204.out 0; have hfz16_1 := blk_frozen BK204.out 1; have hfz16_2 := blk_frozen BK204.out 2; have hfz16_3 := blk_frozen BK204.out 3; have hfz16_4 := blk_frozen BK204.out 4; have hfz16_5 := blk_frozen BK204.out 5) | (go_at_call 50; (with_reducible refine (alarm_Is.calls a1_0 a1_1 a1_2 a1_3 a1_4 a1_5 true _ A9.out).mono ?_); rintro e w17 ⟨rfl, hb⟩; replace BK203 := bl_ BK203 hb; replace BK204 := bl_ BK204 hb; replace BK205 := bl_ BK205 hb; replace HB := Aside0.mk (below_step (by repeat (with_reducible first | exact HB.out | apply pw_below_drewN | apply below_drew1 | refine below_set ?_ (Aside0.out (by assumption)))) hb); (try clear hb); (try clear hb2); (try clear hk); (try clear hi); have hcz18_0 : w17.cell? ⟨gb204, 0, none⟩ = some (.int .i64 a1_0) := (blk_cell BK204.out 0).trans rfl; have hcz18_1 : w17.cell? ⟨gb204, 1, none⟩ = some (.int .i64 a1_1) := (blk_cell BK204.out 1).trans rfl; have hcz18_2 : w17.cell? ⟨gb204, 2, none⟩ = some (.int .i64 a1_2) := (blk_cell BK204.out 2).trans rfl; have hcz18_3 : w17.cell? ⟨gb204, 3, none⟩ = some (.int .i64 a1_3) := (blk_cell BK204.out 3).trans rfl; have hcz18_4 : w17.cell? ⟨gb204, 4, none⟩ = some (.int .i64 a1_4) := (blk_cell BK204.out 4).trans rfl; have hcz18_5 : w17.cell? ⟨gb204, 5, none⟩ = some (.int .i64 a1_5) := (blk_cell BK204.out 5).trans rfl; have hfz18_0 := blk_frozen BK204.out 0; have hfz18_1 := blk_frozen BK204.out 1; have hfz18_2 := blk_frozen BK204.out 2; have hfz18_3 := blk_frozen BK204.out 3; have hfz18_4 := blk_frozen BK204.out 4; have hfz18_5 := blk_frozen BK204.out 5; have hcz19_0 : w17.cell? ⟨gb203, 0, none⟩ = some (.int .i64 a0_0) := (blk_cell BK203.out 0).trans rfl; have hcz19_1 : w17.cell? ⟨gb203, 1, none⟩ = some (.int .i64 a0_1) := (blk_cell BK203.out 1).trans rfl; have hcz19_2 : w17.cell? ⟨gb203, 2, none⟩ = some (.slice A0_2 l0_2.length c0_2) := (blk_cell BK203.out 2).trans rfl; have hfz19_0 := blk_frozen BK203.out 0; have hfz19_1 := blk_frozen BK203.out 1; have hfz19_2 := blk_frozen BK203.out 2))
    go_meet
    case rel => exact ⟨_, (decide (a1_4 > a0_1)), (by first | rfl | (simp; done) | (simp [*]; done)), H', ⟨by first | omega | exact Nat.le_refl _⟩, ⟨by (with_reducible repeat (first | refine blk_drewN ?_ _ | refine blk_drew ?_ | refine blk_alloc ?_ _)); exact BK203.out⟩, ⟨by (with_reducible repeat (first | refine blk_drewN ?_ _ | refine blk_drew ?_ | refine blk_alloc ?_ _)); exact BK204.out⟩, ⟨by (with_reducible repeat (first | refine blk_drewN ?_ _ | refine blk_drew ?_ | refine blk_alloc ?_ _)); exact BK205.out⟩, ⟨by repeat (with_reducible first | exact HB.out | apply pw_below_drewN | apply below_drew1 | refine below_set ?_ (Aside0.out (by assumption)))⟩⟩
   ·replace c10 := Bool.eq_false_iff.mpr c10
    subst c10
    rw [if_neg (show ¬ (false = true) by decide)] at H; try dsimp only at H
    have H' := Aside0.mk H
    clear H
    have hnb20 := NB203_204.out
    have hnc20 := NB204_203.out
    have hnb21 := NB203_205.out
    have hnc21 := NB205_203.out
    have hcz22_0 : w6.cell? ⟨gb203, 0, none⟩ = some (.int .i64 a0_0) := (blk_cell BK203.out 0).trans rfl
    have hcz22_1 : w6.cell? ⟨gb203, 1, none⟩ = some (.int .i64 a0_1) := (blk_cell BK203.out 1).trans rfl
    have hcz22_2 : w6.cell? ⟨gb203, 2, none⟩ = some (.slice A0_2 l0_2.length c0_2) := (blk_cell BK203.out 2).trans rfl
    have hfz22_0 := blk_frozen BK203.out 0
    have hfz22_1 := blk_frozen BK203.out 1
    have hfz22_2 := blk_frozen BK203.out 2
    go_wp2_with (first | ((with_reducible refine gate_callee (f := 32) rfl ?_); refine goesL_ (some 10) rfl rfl Try.func32 (by kernel_rfl) rfl #[.agg #[.int .i64 a0_0, .int .i64 a0_1, .slice A0_2 l0_2.length c0_2]] rfl (by (try simp only [List.map_toArray, List.map_cons, List.map_nil]); first | done | rfl | (simp only [List.length_drop, List.length_take]; rfl)) ?_; (with_reducible refine (board_Is.calls k a0_0 a0_1 _ _ l0_2 true _ ?side1 ?side2 A7.out).mono ?_); (case side1 => exact (Kd.C_below HR0_2.out HB.out)); (case side2 => exact HC0_2.out); rintro e w23 ⟨rfl, hb⟩; refine ⟨_, rfl, ?_⟩; replace BK203 := bl_ BK203 hb; replace BK204 := bl_ BK204 hb; replace BK205 := bl_ BK205 hb; replace HB := Aside0.mk (below_step (by repeat (with_reducible first | exact HB.out | apply pw_below_drewN | apply below_drew1 | refine below_set ?_ (Aside0.out (by assumption)))) hb); (try clear hb); (try clear hb2); (try clear hk); (try clear hi); have hnb24 := NB204_205.out; have hnc24 := NB205_204.out; have hcz25_0 : w23.cell? ⟨gb204, 0, none⟩ = some (.int .i64 a1_0) := (blk_cell BK204.out 0).trans rfl; have hcz25_1 : w23.cell? ⟨gb204, 1, none⟩ = some (.int .i64 a1_1) := (blk_cell BK204.out 1).trans rfl; have hcz25_2 : w23.cell? ⟨gb204, 2, none⟩ = some (.int .i64 a1_2) := (blk_cell BK204.out 2).trans rfl; have hcz25_3 : w23.cell? ⟨gb204, 3, none⟩ = some (.int .i64 a1_3) := (blk_cell BK204.out 3).trans rfl; have hcz25_4 : w23.cell? ⟨gb204, 4, none⟩ = some (.int .i64 a1_4) := (blk_cell BK204.out 4).trans rfl; have hcz25_5 : w23.cell? ⟨gb204, 5, none⟩ = some (.int .i64 a1_5) := (blk_cell BK204.out 5).trans rfl; have hfz25_0 := blk_frozen BK204.out 0; have hfz25_1 := blk_frozen BK204.out 1; have hfz25_2 := blk_frozen BK204.out 2; have hfz25_3 := blk_frozen BK204.out 3; have hfz25_4 := blk_frozen BK204.out 4; have hfz25_5 := blk_frozen BK204.out 5) | (go_at_call 50; (with_reducible refine (alarm_Is.calls a1_0 a1_1 a1_2 a1_3 a1_4 a1_5 false _ A9.out).mono ?_); rintro e w26 ⟨rfl, hb⟩; replace BK203 := bl_ BK203 hb; replace BK204 := bl_ BK204 hb; replace BK205 := bl_ BK205 hb; replace HB := Aside0.mk (below_step (by repeat (with_reducible first | exact HB.out | apply pw_below_drewN | apply below_drew1 | refine below_set ?_ (Aside0.out (by assumption)))) hb); (try clear hb); (try clear hb2); (try clear hk); (try clear hi)))
    go_meet
    case rel => exact ⟨_, (true), (by first | rfl | (simp; done) | (simp [*]; done)), H', ⟨by first | omega | exact Nat.le_refl _⟩, ⟨by (with_reducible repeat (first | refine blk_drewN ?_ _ | refine blk_drew ?_ | refine blk_alloc ?_ _)); exact BK203.out⟩, ⟨by (with_reducible repeat (first | refine blk_drewN ?_ _ | refine blk_drew ?_ | refine blk_alloc ?_ _)); exact BK204.out⟩, ⟨by (with_reducible repeat (first | refine blk_drewN ?_ _ | refine blk_drew ?_ | refine blk_alloc ?_ _)); exact BK205.out⟩, ⟨by repeat (with_reducible first | exact HB.out | apply pw_below_drewN | apply below_drew1 | refine below_set ?_ (Aside0.out (by assumption)))⟩⟩
  ·replace c8 := Bool.eq_false_iff.mpr c8
   subst c8
   rw [if_neg (show ¬ (false = true) by decide)] at H; try dsimp only at H
   have H' := Aside0.mk H
   clear H
   have hnb27 := NB203_204.out
   have hnc27 := NB204_203.out
   have hnb28 := NB203_205.out
   have hnc28 := NB205_203.out
   have hcz29_0 : w6.cell? ⟨gb203, 0, none⟩ = some (.int .i64 a0_0) := (blk_cell BK203.out 0).trans rfl
   have hcz29_1 : w6.cell? ⟨gb203, 1, none⟩ = some (.int .i64 a0_1) := (blk_cell BK203.out 1).trans rfl
   have hcz29_2 : w6.cell? ⟨gb203, 2, none⟩ = some (.slice A0_2 l0_2.length c0_2) := (blk_cell BK203.out 2).trans rfl
   have hfz29_0 := blk_frozen BK203.out 0
   have hfz29_1 := blk_frozen BK203.out 1
   have hfz29_2 := blk_frozen BK203.out 2
   go_wp2_with (first | ((with_reducible refine gate_callee (f := 32) rfl ?_); refine goesL_ (some 10) rfl rfl Try.func32 (by kernel_rfl) rfl #[.agg #[.int .i64 a0_0, .int .i64 a0_1, .slice A0_2 l0_2.length c0_2]] rfl (by (try simp only [List.map_toArray, List.map_cons, List.map_nil]); first | done | rfl | (simp only [List.length_drop, List.length_take]; rfl)) ?_; (with_reducible refine (board_Is.calls k a0_0 a0_1 _ _ l0_2 false _ ?side1 ?side2 A7.out).mono ?_); (case side1 => exact (Kd.C_below HR0_2.out HB.out)); (case side2 => exact HC0_2.out); rintro e w30 ⟨rfl, hb⟩; refine ⟨_, rfl, ?_⟩; replace BK203 := bl_ BK203 hb; replace BK204 := bl_ BK204 hb; replace BK205 := bl_ BK205 hb; replace HB := Aside0.mk (below_step (by repeat (with_reducible first | exact HB.out | apply pw_below_drewN | apply below_drew1 | refine below_set ?_ (Aside0.out (by assumption)))) hb); (try clear hb); (try clear hb2); (try clear hk); (try clear hi)))
   go_meet
   case rel => exact ⟨_, (true), (by first | rfl | (simp; done) | (simp [*]; done)), H', ⟨by first | omega | exact Nat.le_refl _⟩, ⟨by (with_reducible repeat (first | refine blk_drewN ?_ _ | refine blk_drew ?_ | refine blk_alloc ?_ _)); exact BK203.out⟩, ⟨by (with_reducible repeat (first | refine blk_drewN ?_ _ | refine blk_drew ?_ | refine blk_alloc ?_ _)); exact BK204.out⟩, ⟨by (with_reducible repeat (first | refine blk_drewN ?_ _ | refine blk_drew ?_ | refine blk_alloc ?_ _)); exact BK205.out⟩, ⟨by repeat (with_reducible first | exact HB.out | apply pw_below_drewN | apply below_drew1 | refine below_set ?_ (Aside0.out (by assumption)))⟩⟩
 case rest =>
  clear HC3
  try clear c1; try clear c2; try clear p2; try clear c3; try clear c8; try clear c10; try clear c11; try clear c12; try clear c15; try clear c20; try clear c21; try clear c24; try clear c27; try clear c28; try clear hcz13_0; try clear hcz13_1; try clear hcz13_2; try clear hcz16_0; try clear hcz16_1; try clear hcz16_2; try clear hcz16_3; try clear hcz16_4; try clear hcz16_5; try clear hcz18_0; try clear hcz18_1; try clear hcz18_2; try clear hcz18_3; try clear hcz18_4; try clear hcz18_5; try clear hcz19_0; try clear hcz19_1; try clear hcz19_2; try clear hcz22_0; try clear hcz22_1; try clear hcz22_2; try clear hcz25_0; try clear hcz25_1; try clear hcz25_2; try clear hcz25_3; try clear hcz25_4; try clear hcz25_5; try clear hcz29_0; try clear hcz29_1; try clear hcz29_2; try clear hfz13_0; try clear hfz13_1; try clear hfz13_2; try clear hfz16_0; try clear hfz16_1; try clear hfz16_2; try clear hfz16_3; try clear hfz16_4; try clear hfz16_5; try clear hfz18_0; try clear hfz18_1; try clear hfz18_2; try clear hfz18_3; try clear hfz18_4; try clear hfz18_5; try clear hfz19_0; try clear hfz19_1; try clear hfz19_2; try clear hfz22_0; try clear hfz22_1; try clear hfz22_2; try clear hfz25_0; try clear hfz25_1; try clear hfz25_2; try clear hfz25_3; try clear hfz25_4; try clear hfz25_5; try clear hfz29_0; try clear hfz29_1; try clear hfz29_2
  obtain ⟨kq, x23_2, rfl, HA, HJ2, BK203, BK204, BK205, HB⟩ := hcut
  cases kq with
  | zero => exact absurd HA.out (by simp [board_Put.j0])
  | succ kj2 =>
   have H := HA.out
   clear HA
   simp only [board_Put.j0] at H
   by_cases c31 : x23_2 = true
   ·subst c31
    rw [if_pos rfl] at H; try dsimp only at H
    simp only [Option.some.injEq, Prod.mk.injEq] at H
    obtain ⟨rfl, rfl, rfl, rfl⟩ := H
    have hnb32 := NB205_203.out
    have hnc32 := NB203_205.out
    have hnb33 := NB205_204.out
    have hnc33 := NB204_205.out
    have hcz34_0 : wc.cell? ⟨gb205, 0, none⟩ = some (.int .i64 0) := (blk_cell BK205.out 0).trans rfl
    have hcz34_1 : wc.cell? ⟨gb205, 1, none⟩ = some (.int .i64 0) := (blk_cell BK205.out 1).trans rfl
    have hcz34_2 : wc.cell? ⟨gb205, 2, none⟩ = some (.slice none 0 0) := (blk_cell BK205.out 2).trans rfl
    have hfz34_0 := blk_frozen BK205.out 0
    have hfz34_1 := blk_frozen BK205.out 1
    have hfz34_2 := blk_frozen BK205.out 2
    go_wp2
    refine bodyPost_ret (results_ct rfl _ _ gb205 24 #[.int .i64 0, .int .i64 0, .slice none 0 0] (0, 0) _ rfl (by refine blk_put (cs := #[.int .i64 0, .int .i64 0, .slice none 0 0]) ?_ 2 _ rfl; refine blk_put (cs := #[.int .i64 0, .int .i64 0, .slice none 0 0]) ?_ 1 _ rfl; refine blk_put (cs := #[.int .i64 0, .int .i64 0, .slice none 0 0]) ?_ 0 _ rfl; exact BK205.out) Try.underlying24 rfl (by kernel_rfl)) rfl ?_
    exact ⟨_, by first | rfl | (simp [errW_none, errW_some] <;> rfl) | (simp [*, errW_none, errW_some] <;> rfl), by first | exact Kd.R_nil _ _ _ _ _ | exact Kd.N_nil _ _ _ _ _ | exact Kd.V_nil _ _ _ _ _ | exact Kd.Q_nil _ _ _ _ _ | exact Kd.S_nil _ _ _ _ _, by repeat (with_reducible first | exact HB.out | apply pw_below_drewN | apply below_drew1 | refine below_set ?_ (Aside0.out (by assumption)))⟩
   ·replace c31 := Bool.eq_false_iff.mpr c31
    subst c31
    rw [if_neg (show ¬ (false = true) by decide)] at H; try dsimp only at H
    replace H := Option.bind_eq_some_iff.mp H
    obtain ⟨⟨t208, t211, t212, t213⟩, A350, H⟩ := H
    try dsimp only at H
    have A35 := Aside0.mk A350
    clear A350
    replace H := Option.bind_eq_some_iff.mp H
    obtain ⟨⟨t217, t218⟩, A360, H⟩ := H
    try dsimp only at H
    have A36 := Aside0.mk A360
    clear A360
    by_cases c37 : t218 = true
    ·subst c37
     rw [if_pos rfl] at H; try dsimp only at H
     obtain ⟨y219, hy219⟩ : ∃ y_ : List (S28), y_ = (([(⟨(⟨a1_0, a1_1⟩ : S26), a1_2, a1_3, a1_4, a1_5⟩ : S28)] : List (S28))) := ⟨_, rfl⟩
     replace H : ((board_alarms_with.f kj2 t208 t217 1 y219).bind fun t222 => ((board_sheet_now.f t208 t211 t212 t213 t222).bind fun bt225 => (some (bt225.1, bt225.2.1, bt225.2.2, 0)))) = some (r1, r2, r3, r4) := by first | (rw [hy219]; with_reducible exact H) | (have H2_ := (Option.bind_some _ _).symm.trans H; rw [hy219]; with_reducible exact H2_) | (have H2_ := (Option.bind_some _ _).symm.trans H; with_reducible exact H2_) | with_reducible exact H | (rw [hy219]; exact H) | exact H
     have Ny219 := Aside0.mk hy219
     clear hy219
     replace H := Option.bind_eq_some_iff.mp H
     obtain ⟨t222, A380, H⟩ := H
     try dsimp only at H
     have A38 := Aside0.mk A380
     clear A380
     replace H := Option.bind_eq_some_iff.mp H
     obtain ⟨⟨t225, t226, t227⟩, A390, H⟩ := H
     try dsimp only at H
     have A39 := Aside0.mk A390
     clear A390
     simp only [Option.some.injEq, Prod.mk.injEq] at H
     obtain ⟨rfl, rfl, rfl, rfl⟩ := H
     have hnb40 := NB203_204.out
     have hnc40 := NB204_203.out
     have hnb41 := NB203_205.out
     have hnc41 := NB205_203.out
     have hcz42_0 : wc.cell? ⟨gb203, 0, none⟩ = some (.int .i64 a0_0) := (blk_cell BK203.out 0).trans rfl
     have hcz42_1 : wc.cell? ⟨gb203, 1, none⟩ = some (.int .i64 a0_1) := (blk_cell BK203.out 1).trans rfl
     have hcz42_2 : wc.cell? ⟨gb203, 2, none⟩ = some (.slice A0_2 l0_2.length c0_2) := (blk_cell BK203.out 2).trans rfl
     have hfz42_0 := blk_frozen BK203.out 0
     have hfz42_1 := blk_frozen BK203.out 1
     have hfz42_2 := blk_frozen BK203.out 2
     try go_wp2_with (first | ((with_reducible refine gate_callee (f := 51) rfl ?_); refine goesL_ (some 26) rfl rfl Try.func51 (by kernel_rfl) rfl #[.agg #[.int .i64 a0_0, .int .i64 a0_1, .slice A0_2 l0_2.length c0_2]] rfl (by (try simp only [List.map_toArray, List.map_cons, List.map_nil]); first | done | rfl | (simp only [List.length_drop, List.length_take]; rfl)) ?_; (with_reducible refine (board_open.calls a0_0 a0_1 (fun k_ => k_ < w.heap.size) _ _ l0_2 t208 t211 t212 t213 _ ?side1 A35.out).mono ?_); (case side1 => exact Kd.V_mk HC0_2.out (Kd.F_below (Kd.C_F k28_heap HR0_2.out) (by repeat (with_reducible first | exact HB.out | apply pw_below_drewN | apply below_drew1 | refine below_set ?_ (Aside0.out (by assumption)))))); rintro e w43 ⟨v209, v214, rfl, ho0, ho1, hb⟩; refine ⟨_, rfl, ?_⟩; have HO210 := Aside0.mk (Kd.V_lower (Kd.V_mono (ok' := fun k_ => k_ ≠ gb203 ∧ k_ ≠ gb204 ∧ k_ ≠ gb205) ho0 (fun k_ hk_ => ⟨Or.elim hk_ (fun hs_ => fun e_ => Nat.not_le.2 hs_ (by rw [e_]; exact GW203.out)) (fun hn_ => (Kd.freshB (g := gb203) (o := .cells #[.int .i64 a0_0, .int .i64 a0_1, .slice A0_2 l0_2.length c0_2] 24 (0, 0)) BK203.out k_ hn_)), Or.elim hk_ (fun hs_ => fun e_ => Nat.not_le.2 hs_ (by rw [e_]; exact GW204.out)) (fun hn_ => (Kd.freshB (g := gb204) (o := .cells #[.int .i64 a1_0, .int .i64 a1_1, .int .i64 a1_2, .int .i64 a1_3, .int .i64 a1_4, .int .i64 a1_5] 28 (0, 0)) BK204.out k_ hn_)), Or.elim hk_ (fun hs_ => fun e_ => Nat.not_le.2 hs_ (by rw [e_]; exact GW205.out)) (fun hn_ => (Kd.freshB (g := gb205) (o := .cells #[.int .i64 0, .int .i64 0, .slice none 0 0] 24 (0, 0)) BK205.out k_ hn_))⟩)) (below_size (by repeat (with_reducible first | exact HB.out | apply pw_below_drewN | apply below_drew1 | refine below_set ?_ (Aside0.out (by assumption)))))); have HO215 := Aside0.mk (Kd.V_lower (Kd.V_mono (ok' := fun k_ => k_ ≠ gb203 ∧ k_ ≠ gb204 ∧ k_ ≠ gb205) ho1 (fun k_ hk_ => ⟨Or.elim hk_ (fun hs_ => fun e_ => Nat.not_le.2 hs_ (by rw [e_]; exact GW203.out)) (fun hn_ => (Kd.freshB (g := gb203) (o := .cells #[.int .i64 a0_0, .int .i64 a0_1, .slice A0_2 l0_2.length c0_2] 24 (0, 0)) BK203.out k_ hn_)), Or.elim hk_ (fun hs_ => fun e_ => Nat.not_le.2 hs_ (by rw [e_]; exact GW204.out)) (fun hn_ => (Kd.freshB (g := gb204) (o := .cells #[.int .i64 a1_0, .int .i64 a1_1, .int .i64 a1_2, .int .i64 a1_3, .int .i64 a1_4, .int .i64 a1_5] 28 (0, 0)) BK204.out k_ hn_)), Or.elim hk_ (fun hs_ => fun e_ => Nat.not_le.2 hs_ (by rw [e_]; exact GW205.out)) (fun hn_ => (Kd.freshB (g := gb205) (o := .cells #[.int .i64 0, .int .i64 0, .slice none 0 0] 24 (0, 0)) BK205.out k_ hn_))⟩)) (below_size (by repeat (with_reducible first | exact HB.out | apply pw_below_drewN | apply below_drew1 | refine below_set ?_ (Aside0.out (by assumption)))))); replace BK203 := bl_ BK203 hb; replace BK204 := bl_ BK204 hb; replace BK205 := bl_ BK205 hb; replace HB := Aside0.mk (below_step (by repeat (with_reducible first | exact HB.out | apply pw_below_drewN | apply below_drew1 | refine below_set ?_ (Aside0.out (by assumption)))) hb); (try clear hb); (try clear hb2); (try clear hk); (try clear hi); (try clear ho0); (try clear ho1)) | ((with_reducible refine gate_dst (N := 6) rfl ?_); refine box_event ?hg (N := 6) ?hd (cs := #[.slice none 0 0, .int .i64 0, .int .i64 0, .slice none 0 0]) (t := 72) ?hr ?_; (case hd => rfl); (case hg => rfl); (case hr => first | (go_simp; done) | (go_simp; rfl)); intro gb216 hg w44 hbox hb; replace HO210 := Aside0.mk (Kd.V_below (Kd.V_elderB (HO210.out) gb216 (Nat.le_of_eq hg.symm)) hb); replace HO215 := Aside0.mk (Kd.V_below (Kd.V_elderB (HO215.out) gb216 (Nat.le_of_eq hg.symm)) hb); have BK216 := Aside0.mk (hbox); have GW216 := Aside0.mk ((by rw [hg]; exact (below_size (by repeat (with_reducible first | exact HB.out | apply pw_below_drewN | apply below_drew1 | refine below_set ?_ (Aside0.out (by assumption))))) : w.heap.size ≤ gb216)); have GE216 := Aside0.mk ((by rw [hg]; exact (below_size (by repeat (with_reducible first | exact HB.out | apply pw_below_drewN | apply below_drew1 | refine below_set ?_ (Aside0.out (by assumption))))) : w.heap.size ≤ gb216)); replace HB := Aside0.mk (below_step (by repeat (with_reducible first | exact HB.out | apply pw_below_drewN | apply below_drew1 | refine below_set ?_ (Aside0.out (by assumption)))) hb); have NB203_216 := Aside0.mk ((by rw [hg]; exact Nat.ne_of_lt (blk_lt BK203.out) : gb203 ≠ gb216)); have NB216_203 := Aside0.mk ((by rw [hg]; exact Nat.ne_of_gt (blk_lt BK203.out) : gb216 ≠ gb203)); replace BK203 := bl_ BK203 hb; have NB204_216 := Aside0.mk ((by rw [hg]; exact Nat.ne_of_lt (blk_lt BK204.out) : gb204 ≠ gb216)); have NB216_204 := Aside0.mk ((by rw [hg]; exact Nat.ne_of_gt (blk_lt BK204.out) : gb216 ≠ gb204)); replace BK204 := bl_ BK204 hb; have NB205_216 := Aside0.mk ((by rw [hg]; exact Nat.ne_of_lt (blk_lt BK205.out) : gb205 ≠ gb216)); have NB216_205 := Aside0.mk ((by rw [hg]; exact Nat.ne_of_gt (blk_lt BK205.out) : gb216 ≠ gb205)); replace BK205 := bl_ BK205 hb; clear hb hbox hg; obtain ⟨Ao45, co45, eo45⟩ := Kd.V_slice HO210.out; subst eo45; have hnb46 := NB216_203.out; have hnc46 := NB203_216.out; have hnb47 := NB216_204.out; have hnc47 := NB204_216.out; have hnb48 := NB216_205.out; have hnc48 := NB205_216.out; have hcz49_0 : w44.cell? ⟨gb216, 0, none⟩ = some (.slice none 0 0) := (blk_cell BK216.out 0).trans rfl; have hcz49_1 : w44.cell? ⟨gb216, 1, none⟩ = some (.int .i64 0) := (blk_cell BK216.out 1).trans rfl; have hcz49_2 : w44.cell? ⟨gb216, 2, none⟩ = some (.int .i64 0) := (blk_cell BK216.out 2).trans rfl; have hcz49_3 : w44.cell? ⟨gb216, 3, none⟩ = some (.slice none 0 0) := (blk_cell BK216.out 3).trans rfl; have hfz49_0 := blk_frozen BK216.out 0; have hfz49_1 := blk_frozen BK216.out 1; have hfz49_2 := blk_frozen BK216.out 2; have hfz49_3 := blk_frozen BK216.out 3; obtain ⟨Ao50, co50, eo50⟩ := Kd.V_slice HO215.out; subst eo50; have hnb51 := NB204_205.out; have hnc51 := NB205_204.out; have hcz52_0 : w44.cell? ⟨gb204, 0, none⟩ = some (.int .i64 a1_0) := (blk_cell BK204.out 0).trans rfl; have hcz52_1 : w44.cell? ⟨gb204, 1, none⟩ = some (.int .i64 a1_1) := (blk_cell BK204.out 1).trans rfl; have hcz52_2 : w44.cell? ⟨gb204, 2, none⟩ = some (.int .i64 a1_2) := (blk_cell BK204.out 2).trans rfl; have hcz52_3 : w44.cell? ⟨gb204, 3, none⟩ = some (.int .i64 a1_3) := (blk_cell BK204.out 3).trans rfl; have hcz52_4 : w44.cell? ⟨gb204, 4, none⟩ = some (.int .i64 a1_4) := (blk_cell BK204.out 4).trans rfl; have hcz52_5 : w44.cell? ⟨gb204, 5, none⟩ = some (.int .i64 a1_5) := (blk_cell BK204.out 5).trans rfl; have hfz52_0 := blk_frozen BK204.out 0; have hfz52_1 := blk_frozen BK204.out 1; have hfz52_2 := blk_frozen BK204.out 2; have hfz52_3 := blk_frozen BK204.out 3; have hfz52_4 := blk_frozen BK204.out 4; have hfz52_5 := blk_frozen BK204.out 5) | ((with_reducible refine gate_callee (f := 52) rfl ?_); refine goesL_ (some 32) rfl rfl Try.func52 (by kernel_rfl) rfl #[.slice Ao45 t208.length co45, .agg #[.int .i64 a1_0, .int .i64 a1_1]] rfl (by (try simp only [List.map_toArray, List.map_cons, List.map_nil]); first | done | rfl | (simp only [List.length_drop, List.length_take]; rfl)) ?_; (with_reducible refine (board_alarms_find.calls kj2 _ _ t208 a1_0 a1_1 t217 true _ ?side1 ?side2 A36.out).mono ?_); (case side1 => refine (Kd.V_reads' (e := 28) (base := w.heap.size) (ok := fun k_ => ((k_ ≠ gb203 ∧ (k_ ≠ gb204 ∧ k_ ≠ gb205)) ∧ k_ ≠ gb216)) (n := t208.length) (c := co45) ?_).2.2; exact (by (with_reducible repeat (first | apply Kd.V_alloc | apply Kd.V_drewN | apply Kd.V_drew)); exact (Kd.V_mono (Kd.V_far (p := ⟨gb216, 3, none⟩) (Kd.V_far (p := ⟨gb216, 2, none⟩) (Kd.V_far (p := ⟨gb216, 1, none⟩) (Kd.V_far (p := ⟨gb216, 0, none⟩) (Kd.V_mono HO210.out (fun k_ hk => (⟨hk, hk.2⟩ : _ ∧ k_ ≠ gb216))) (fun _ hk => hk.2) (.slice Ao45 t208.length co45)) (fun _ hk => hk.2) (.int .i64 t211)) (fun _ hk => hk.2) (.int .i64 t212)) (fun _ hk => hk.2) (.slice Ao50 t213.length co50)) (fun _ h_ => h_.1)))); (case side2 => exact (Kd.V_reads' HO210.out).2.1); rintro e w53 ⟨rfl, hb⟩; refine ⟨_, rfl, ?_⟩; replace HO210 := Aside0.mk (Kd.V_below (by (with_reducible repeat (first | apply Kd.V_alloc | apply Kd.V_drewN | apply Kd.V_drew)); exact (Kd.V_mono (Kd.V_far (p := ⟨gb216, 3, none⟩) (Kd.V_far (p := ⟨gb216, 2, none⟩) (Kd.V_far (p := ⟨gb216, 1, none⟩) (Kd.V_far (p := ⟨gb216, 0, none⟩) (Kd.V_mono HO210.out (fun k_ hk => (⟨hk, hk.2⟩ : _ ∧ k_ ≠ gb216))) (fun _ hk => hk.2) (.slice Ao45 t208.length co45)) (fun _ hk => hk.2) (.int .i64 t211)) (fun _ hk => hk.2) (.int .i64 t212)) (fun _ hk => hk.2) (.slice Ao50 t213.length co50)) (fun _ h_ => h_.1))) hb); replace HO215 := Aside0.mk (Kd.V_below (by (with_reducible repeat (first | apply Kd.V_alloc | apply Kd.V_drewN | apply Kd.V_drew)); exact (Kd.V_mono (Kd.V_far (p := ⟨gb216, 3, none⟩) (Kd.V_far (p := ⟨gb216, 2, none⟩) (Kd.V_far (p := ⟨gb216, 1, none⟩) (Kd.V_far (p := ⟨gb216, 0, none⟩) (Kd.V_mono HO215.out (fun k_ hk => (⟨hk, hk.2⟩ : _ ∧ k_ ≠ gb216))) (fun _ hk => hk.2) (.slice Ao45 t208.length co45)) (fun _ hk => hk.2) (.int .i64 t211)) (fun _ hk => hk.2) (.int .i64 t212)) (fun _ hk => hk.2) (.slice Ao50 t213.length co50)) (fun _ h_ => h_.1))) hb); replace BK203 := Aside0.mk (blk_below (g := gb203) (o := .cells #[.int .i64 a0_0, .int .i64 a0_1, .slice A0_2 l0_2.length c0_2] 24 (0, 0)) (by refine blk_far ?_ NB203_216.out _; refine blk_far ?_ NB203_216.out _; refine blk_far ?_ NB203_216.out _; refine blk_far ?_ NB203_216.out _; exact BK203.out) hb); replace BK204 := Aside0.mk (blk_below (g := gb204) (o := .cells #[.int .i64 a1_0, .int .i64 a1_1, .int .i64 a1_2, .int .i64 a1_3, .int .i64 a1_4, .int .i64 a1_5] 28 (0, 0)) (by refine blk_far ?_ NB204_216.out _; refine blk_far ?_ NB204_216.out _; refine blk_far ?_ NB204_216.out _; refine blk_far ?_ NB204_216.out _; exact BK204.out) hb); replace BK205 := Aside0.mk (blk_below (g := gb205) (o := .cells #[.int .i64 0, .int .i64 0, .slice none 0 0] 24 (0, 0)) (by refine blk_far ?_ NB205_216.out _; refine blk_far ?_ NB205_216.out _; refine blk_far ?_ NB205_216.out _; refine blk_far ?_ NB205_216.out _; exact BK205.out) hb); replace BK216 := Aside0.mk (blk_below (g := gb216) (o := .cells #[.slice Ao45 t208.length co45, .int .i64 t211, .int .i64 t212, .slice Ao50 t213.length co50] 72 (0, 0)) (by refine blk_put (cs := #[.slice Ao45 t208.length co45, .int .i64 t211, .int .i64 t212, .slice none 0 0]) ?_ 3 _ rfl; refine blk_put (cs := #[.slice Ao45 t208.length co45, .int .i64 t211, .int .i64 0, .slice none 0 0]) ?_ 2 _ rfl; refine blk_put (cs := #[.slice Ao45 t208.length co45, .int .i64 0, .int .i64 0, .slice none 0 0]) ?_ 1 _ rfl; refine blk_put (cs := #[.slice none 0 0, .int .i64 0, .int .i64 0, .slice none 0 0]) ?_ 0 _ rfl; exact BK216.out) hb); replace HB := Aside0.mk (below_step (by repeat (with_reducible first | exact HB.out | apply pw_below_drewN | apply below_drew1 | refine below_set ?_ (Aside0.out (by assumption)))) hb); (try clear hb); (try clear hb2); (try clear hk); (try clear hi)))
     replace HO210 := Aside0.mk (Kd.V_drew HO210.out)
     replace HO215 := Aside0.mk (Kd.V_drew HO215.out)
     replace BK203 := Aside0.mk (blk_drew BK203.out)
     replace BK204 := Aside0.mk (blk_drew BK204.out)
     replace BK205 := Aside0.mk (blk_drew BK205.out)
     replace BK216 := Aside0.mk (blk_drew BK216.out)
     replace HB := Aside0.mk (below_drew1 HB.out)
     refine start_ (n := 10) (S := fun w' => w'.cell? ⟨gb216, 0, none⟩ = some (.slice Ao45 t208.length co45) ∧ w'.cell? ⟨gb216, 1, none⟩ = some (.int .i64 t211) ∧ w'.cell? ⟨gb216, 2, none⟩ = some (.int .i64 t212) ∧ w'.cell? ⟨gb216, 3, none⟩ = some (.slice Ao50 t213.length co50) ∧ w'.cell? ⟨gb204, 0, none⟩ = some (.int .i64 a1_0) ∧ w'.cell? ⟨gb204, 1, none⟩ = some (.int .i64 a1_1) ∧ w'.cell? ⟨gb204, 2, none⟩ = some (.int .i64 a1_2) ∧ w'.cell? ⟨gb204, 3, none⟩ = some (.int .i64 a1_3) ∧ w'.cell? ⟨gb204, 4, none⟩ = some (.int .i64 a1_4) ∧ w'.cell? ⟨gb204, 5, none⟩ = some (.int .i64 a1_5)) (ds := []) #[false, false, false, false, false, false, false, false, false, false] (by kernel_rfl) rfl rfl ⟨(blk_cell BK216.out 0).trans rfl, (blk_cell BK216.out 1).trans rfl, (blk_cell BK216.out 2).trans rfl, (blk_cell BK216.out 3).trans rfl, (blk_cell BK204.out 0).trans rfl, (blk_cell BK204.out 1).trans rfl, (blk_cell BK204.out 2).trans rfl, (blk_cell BK204.out 3).trans rfl, (blk_cell BK204.out 4).trans rfl, (blk_cell BK204.out 5).trans rfl⟩ (fun hHeld => ?_); refine with_tabW board_Put.tab6 board_Put.bits6 (fun HT_ HW_ => ?_)
     generalize w53.drew = w54 at HO210 HO215 BK203 BK204 BK205 BK216 HB hHeld ⊢
     have Q_ := Qs.mk (n := 10) [(0, 1, 38, 2), (0, 3, 40, 10), (2, 0, 37, 11), (2, 2, 39, 15), (2, 4, 41, 31)]
     iterate 5 (first | (obtain ⟨q_, Q_⟩ := Qs.p Q_; refine pureQ_ q_ (v := ?_) (a' := ?_) rfl rfl (any_of HT_.out (by kernel_rfl)) (fun _ _ _ h => h) (Or.inl ⟨by rfl, ?_⟩) ?_ ?_; rotate_left; (intro w'; go_simp; with_reducible rfl); rotate_left; (simp only [Act.put, List.setIfInBounds_toArray, List.set_cons_zero, List.set_cons_succ, i64_w, i32_w]; rfl)) | (obtain ⟨q_, Q_⟩ := Qs.t Q_; refine takeQ_ q_ (v := ?_) (a' := ?_) rfl rfl (take_ofW HT_.out HW_.out (by kernel_rfl)) (fun _ _ _ h => h) (Or.inl ⟨by rfl, ?_⟩) hHeld ?_ ?_; rotate_left; (rintro w' ⟨s0, s1, s2, s3, s4, s5, s6, s7, s8, s9⟩; go_simp; with_reducible rfl); rotate_left; (simp only [Act.put, List.setIfInBounds_toArray, List.set_cons_zero, List.set_cons_succ, i64_w, i32_w]; rfl)))
     clear Q_
     refine one_ (i := 5) (N := some 42) (dn_ 6 10) rfl rfl (one_of HT_.out (by kernel_rfl)) (by decide) (fun K hK => ?_)
     refine Kd.R_lit_step k28 _ 28 ?hg (N := 42) ?hd (xs := ([(⟨(⟨a1_0, a1_1⟩ : S26), a1_2, a1_3, a1_4, a1_5⟩ : S28)] : List (S28))) (inner := [.int .i64 a1_0, .int .i64 a1_1, .int .i64 a1_2, .int .i64 a1_3, .int .i64 a1_4, .int .i64 a1_5]) (ok := fun _ => True) (okp := fun _ => True) ?hr ?hp (fun _ hk => hk) trivial (Below.refl _ _) (Nat.le_refl _) (by simp) ?_; (case hd => rfl); (case hg => rfl); (case hr => first | (go_simp; done) | (go_simp; rfl)); (case hp => exact (Reps.c6 (show Kd.M k28 _ _ _ (⟨(⟨a1_0, a1_1⟩ : S26), a1_2, a1_3, a1_4, a1_5⟩ : S28) [.int .i64 a1_0, .int .i64 a1_1, .int .i64 a1_2, .int .i64 a1_3, .int .i64 a1_4, .int .i64 a1_5] from (k28_mkM _ _ _ (⟨(⟨a1_0, a1_1⟩ : S26), a1_2, a1_3, a1_4, a1_5⟩ : S28) )) (Reps.none _ _)))
     intro v220 w55 ho56 hb hg_ hnew_
     clear hg_ hnew_
     (first | rw [← Ny219.out] at ho56 | (simp only [Int.reduceToNat] at ho56; rw [← Ny219.out] at ho56))
     replace HO210 := Aside0.mk (Kd.V_elder' (HO210.out) (Kd.R_base ho56) hb)
     replace HO215 := Aside0.mk (Kd.V_elder' (HO215.out) (Kd.R_base ho56) hb)
     have HO221 := Aside0.mk (Kd.R_lower (Kd.R_newB ho56 (g := gb204) (o := .cells #[.int .i64 a1_0, .int .i64 a1_1, .int .i64 a1_2, .int .i64 a1_3, .int .i64 a1_4, .int .i64 a1_5] 28 (0, 0)) BK204.out) (below_size (by repeat (with_reducible first | exact HB.out | apply pw_below_drewN | apply below_drew1 | refine below_set ?_ (Aside0.out (by assumption))))))
     replace BK203 := bl_ BK203 hb
     replace BK204 := bl_ BK204 hb
     replace BK205 := bl_ BK205 hb
     replace BK216 := bl_ BK216 hb
     replace HB := Aside0.mk (below_step (by repeat (with_reducible first | exact HB.out | apply pw_below_drewN | apply below_drew1 | refine below_set ?_ (Aside0.out (by assumption)))) hb)
     clear hb ho56
     obtain ⟨Ao57, co57, eo57⟩ := Kd.R_slice HO221.out
     (first | subst eo57 | (injection eo57 with f1_ f2_ f3_; have f4_ := f1_.symm; have f5_ := f3_.symm; clear f1_ f2_ f3_; subst f4_; subst f5_))
     refine hK.out _ _ ⟨(blk_cell BK216.out 0).trans rfl, (blk_cell BK216.out 1).trans rfl, (blk_cell BK216.out 2).trans rfl, (blk_cell BK216.out 3).trans rfl, (blk_cell BK204.out 0).trans rfl, (blk_cell BK204.out 1).trans rfl, (blk_cell BK204.out 2).trans rfl, (blk_cell BK204.out 3).trans rfl, (blk_cell BK204.out 4).trans rfl, (blk_cell BK204.out 5).trans rfl⟩ (fun hHeld => ?_)
     clear hK K
     refine norm_ (a' := ?_) ?_ ?_
     rotate_left
     ·show Act.put _ (some 42) _ = _
      simp only [Act.put, List.setIfInBounds_toArray, List.set_cons_zero, List.set_cons_succ, i64_w, i32_w]
      rfl
     refine one_ (i := 6) (N := some 43) (dn_ 7 10) rfl rfl (one_of HT_.out (by kernel_rfl)) (by decide) (fun K hK => ?_)
     refine goes_ Try.func54 (by kernel_rfl) rfl #[.slice Ao45 t208.length co45, .int .i64 t217, .int .i64 1, .slice Ao57 y219.length co57] (by rfl) rfl rfl (by (try simp only [List.map_toArray, List.map_cons, List.map_nil]); first | done | rfl | (simp only [List.length_drop, List.length_take]; rfl)) ?_
     with_reducible refine (board_alarms_with.calls kj2 (fun k_ => (((k_ ≠ gb203 ∧ (k_ ≠ gb204 ∧ k_ ≠ gb205)) ∧ k_ ≠ gb216) ∧ some k_ ≠ (.slice Ao57 y219.length co57 : Value).ownBlock)) _ _ t208 t217 1 (fun k_ => some k_ = (.slice Ao57 y219.length co57 : Value).ownBlock) _ _ y219 t222 _ ?side1 ?side2 A38.out).mono ?_
     (case side1 => exact HO210.out)
     (case side2 => exact Kd.R_V (Kd.R_tight rfl (Kd.R_types (Kd.R_types (Kd.R_types (HO221.out) BK203.out (by decide)) BK205.out (by decide)) BK216.out (by decide))))
     rintro e w58 ⟨v223, rfl, ho0, hb⟩
     refine ⟨_, rfl, ?_⟩
     replace HO210 := Aside0.mk (Kd.V_elder' (HO210.out) (Kd.R_base ho0) hb)
     replace HO215 := Aside0.mk (Kd.V_elder' (HO215.out) (Kd.R_base ho0) hb)
     have HO224 := Aside0.mk (Kd.R_lower (Kd.R_newB (Kd.R_new' (Kd.R_mono (ok' := fun k_ => True) ho0 (fun _ hk_ => trivial)) (Kd.R_lt (HO221.out))) (g := gb204) (o := .cells #[.int .i64 a1_0, .int .i64 a1_1, .int .i64 a1_2, .int .i64 a1_3, .int .i64 a1_4, .int .i64 a1_5] 28 (0, 0)) BK204.out) (below_size (by repeat (with_reducible first | exact HB.out | apply pw_below_drewN | apply below_drew1 | refine below_set ?_ (Aside0.out (by assumption))))))
     replace HO221 := Aside0.mk (Kd.R_elder' (HO221.out) (Kd.R_base ho0) hb)
     replace BK203 := bl_ BK203 hb
     replace BK204 := bl_ BK204 hb
     replace BK205 := bl_ BK205 hb
     replace BK216 := bl_ BK216 hb
     replace HB := Aside0.mk (below_step (by repeat (with_reducible first | exact HB.out | apply pw_below_drewN | apply below_drew1 | refine below_set ?_ (Aside0.out (by assumption)))) hb)
     (try clear hb)
     (try clear hb2)
     (try clear hk)
     (try clear hi)
     (try clear ho0)
     obtain ⟨Ao59, co59, eo59⟩ := Kd.R_slice HO224.out
     (first | subst eo59 | (injection eo59 with f1_ f2_ f3_; have f4_ := f1_.symm; have f5_ := f3_.symm; clear f1_ f2_ f3_; subst f4_; subst f5_))
     refine hK.out _ _ ⟨(blk_cell BK216.out 0).trans rfl, (blk_cell BK216.out 1).trans rfl, (blk_cell BK216.out 2).trans rfl, (blk_cell BK216.out 3).trans rfl, (blk_cell BK204.out 0).trans rfl, (blk_cell BK204.out 1).trans rfl, (blk_cell BK204.out 2).trans rfl, (blk_cell BK204.out 3).trans rfl, (blk_cell BK204.out 4).trans rfl, (blk_cell BK204.out 5).trans rfl⟩ (fun hHeld => ?_)
     clear hK K
     refine norm_ (a' := ?_) ?_ ?_
     rotate_left
     ·show Act.put _ (some 43) _ = _
      simp only [Act.put, List.setIfInBounds_toArray, List.set_cons_zero, List.set_cons_succ, i64_w, i32_w]
      rfl
     refine one_ (i := 7) (N := some 44) (dn_ 8 10) rfl rfl (one_of HT_.out (by kernel_rfl)) (by decide) (fun K hK => ?_)
     refine goes_ Try.func53 (by kernel_rfl) rfl #[.agg #[.slice Ao45 t208.length co45, .int .i64 t211, .int .i64 t212, .slice Ao50 t213.length co50], .slice Ao59 t222.length co59] (by rfl) rfl rfl (by (try simp only [List.map_toArray, List.map_cons, List.map_nil]); first | done | rfl | (simp only [List.length_drop, List.length_take]; rfl)) ?_
     with_reducible refine (board_sheet_now.calls _ _ t208 t211 t212 _ _ t213 (fun k_ => some k_ = (.slice Ao59 t222.length co59 : Value).ownBlock) (.slice Ao59 t222.length co59) t222 t225 t226 t227 w _ ?side1 ?side2 ?side3 ?side4 ?side5 ?side6 A39.out).mono ?_
     (case side1 => repeat (first | (with_reducible first | exact HB.out | apply below_alloc | apply pw_below_drewN | apply below_drew1 | refine below_set ?_ GE203.out | refine below_set ?_ GE204.out | refine below_set ?_ GE205.out | refine below_set ?_ GE216.out) | exact HB.out))
     (case side2 => exact Kd.C_kept_ownV (HO210.out) (fun k_ hk_ hs_ => (hk_.2) hs_))
     (case side3 => exact (Kd.V_reads' HO210.out).2.1)
     (case side4 => exact Kd.C_kept_ownV (HO215.out) (fun k_ hk_ hs_ => (hk_.2) hs_))
     (case side5 => exact (Kd.V_reads' HO215.out).2.1)
     (case side6 => exact Kd.R_tight rfl HO224.out)
     rintro e w60 ⟨v228, rfl, ho0, hb, hkp⟩
     refine ⟨_, rfl, ?_⟩
     replace BK203 := Aside0.mk (blk_kept BK203.out hkp (fun hs_ => (fun e_ => (Kd.R_ne HO224.out BK203.out (by decide)) e_) hs_))
     replace BK205 := Aside0.mk (blk_kept BK205.out hkp (fun hs_ => (fun e_ => (Kd.R_ne HO224.out BK205.out (by decide)) e_) hs_))
     replace HO210 := Aside0.mk (Kd.V_mono (ok' := fun k_ => some k_ ≠ (.slice Ao57 y219.length co57 : Value).ownBlock ∧ k_ ≠ gb203 ∧ k_ ≠ gb204 ∧ k_ ≠ gb205 ∧ k_ ≠ gb216 ∧ some k_ ≠ (v228 : Value).ownBlock) (Kd.V_keptB (HO210.out) hkp (fun k_ hk_ hs_ => (hk_.2) hs_)) (fun k_ hk_ => ⟨hk_.1.1.2, hk_.1.1.1.1.1, hk_.1.1.1.1.2.1, hk_.1.1.1.1.2.2, hk_.1.1.1.2, fun e_ => Or.elim (ho0.1 k_ e_.symm) (fun hs_ => hk_.2.1 hs_) (fun hn_ => Nat.not_le.2 hk_.2.2 hn_)⟩))
     replace HO215 := Aside0.mk (Kd.V_mono (ok' := fun k_ => some k_ ≠ (.slice Ao57 y219.length co57 : Value).ownBlock ∧ k_ ≠ gb203 ∧ k_ ≠ gb204 ∧ k_ ≠ gb205 ∧ k_ ≠ gb216 ∧ some k_ ≠ (v228 : Value).ownBlock) (Kd.V_keptB (HO215.out) hkp (fun k_ hk_ hs_ => (hk_.2) hs_)) (fun k_ hk_ => ⟨hk_.1.1.2, hk_.1.1.1.1.1, hk_.1.1.1.1.2.1, hk_.1.1.1.1.2.2, hk_.1.1.1.2, fun e_ => Or.elim (ho0.1 k_ e_.symm) (fun hs_ => hk_.2.1 hs_) (fun hn_ => Nat.not_le.2 hk_.2.2 hn_)⟩))
     replace BK216 := Aside0.mk (blk_kept BK216.out hkp (fun hs_ => (fun e_ => (Kd.R_ne HO224.out BK216.out (by decide)) e_) hs_))
     have HO229 := Aside0.mk (Kd.R_mono (ok' := fun k_ => some k_ ≠ (.slice Ao57 y219.length co57 : Value).ownBlock ∧ k_ ≠ gb204) ho0 (fun k_ hk_ => ⟨Or.elim hk_ (fun hs_ => fun e_ => (((HO221.out).1 k_ e_.symm).2) hs_) (fun hn_ => (Kd.fresh' (Kd.R_lt (HO221.out)) k_ hn_)), Or.elim hk_ (fun hs_ => fun e_ => (Kd.R_away HO224.out (fun _ hk => hk.2)) (by rw [← e_]; exact hs_)) (fun hn_ => (Kd.freshB (g := gb204) (o := .cells #[.int .i64 a1_0, .int .i64 a1_1, .int .i64 a1_2, .int .i64 a1_3, .int .i64 a1_4, .int .i64 a1_5] 28 (0, 0)) BK204.out k_ hn_))⟩))
     replace BK204 := Aside0.mk (blk_kept BK204.out hkp (fun hs_ => (fun e_ => (Kd.R_away HO224.out (fun _ hk => hk.2)) e_) hs_))
     replace HO221 := Aside0.mk (Kd.R_mono (ok' := fun k_ => k_ ≠ gb204 ∧ some k_ ≠ (v228 : Value).ownBlock) (Kd.R_keptB (HO221.out) hkp (fun k_ hk_ hs_ => (hk_.2) hs_)) (fun k_ hk_ => ⟨hk_.1.1.2, fun e_ => Or.elim (ho0.1 k_ e_.symm) (fun hs_ => hk_.2.1 hs_) (fun hn_ => Nat.not_le.2 hk_.2.2 hn_)⟩))
     replace HB := Aside0.mk (hb)
     clear HO224
     (try clear hb)
     (try clear hkp)
     (try clear ho0)
     obtain ⟨Ao63, co63, eo63⟩ := Kd.R_slice HO229.out
     (first | subst eo63 | (injection eo63 with f1_ f2_ f3_; have f4_ := f1_.symm; have f5_ := f3_.symm; clear f1_ f2_ f3_; subst f4_; subst f5_))
     refine hK.out _ _ ⟨(blk_cell BK216.out 0).trans rfl, (blk_cell BK216.out 1).trans rfl, (blk_cell BK216.out 2).trans rfl, (blk_cell BK216.out 3).trans rfl, (blk_cell BK204.out 0).trans rfl, (blk_cell BK204.out 1).trans rfl, (blk_cell BK204.out 2).trans rfl, (blk_cell BK204.out 3).trans rfl, (blk_cell BK204.out 4).trans rfl, (blk_cell BK204.out 5).trans rfl⟩ (fun hHeld => ?_)
     clear hK K
     refine norm_ (a' := ?_) ?_ ?_
     rotate_left
     ·show Act.put _ (some 44) _ = _
      simp only [Act.put, List.setIfInBounds_toArray, List.set_cons_zero, List.set_cons_succ, i64_w, i32_w]
      rfl
     refine one_ (i := 8) (N := none) (dn_ 9 10) rfl rfl (one_of HT_.out (by kernel_rfl)) (by decide) (fun K hK => ?_)
     have hs61 : w60.cell? ⟨gb205, 0, none⟩ = some (.int .i64 0) := (blk_cell BK205.out 0).trans rfl
     have hfs61 := blk_frozen BK205.out 0
     have hns61_0 := NB203_205.out
     have hns61_1 := NB204_205.out
     have hns61_3 := NB216_205.out
     have hms61_0 := NB205_203.out
     have hms61_1 := NB205_204.out
     have hms61_3 := NB205_216.out
     have hs62 : w60.cell? ⟨gb205, 1, none⟩ = some (.int .i64 0) := (blk_cell BK205.out 1).trans rfl
     have hfs62 := blk_frozen BK205.out 1
     have hns62_0 := NB203_205.out
     have hns62_1 := NB204_205.out
     have hns62_3 := NB216_205.out
     have hms62_0 := NB205_203.out
     have hms62_1 := NB205_204.out
     have hms62_3 := NB205_216.out
     have hs64 : w60.cell? ⟨gb205, 2, none⟩ = some (.slice none 0 0) := (blk_cell BK205.out 2).trans rfl
     have hfs64 := blk_frozen BK205.out 2
     have hns64_0 := NB203_205.out
     have hns64_1 := NB204_205.out
     have hns64_3 := NB216_205.out
     have hms64_0 := NB205_203.out
     have hms64_1 := NB205_204.out
     have hms64_3 := NB205_216.out
     refine skip_ (w1 := ?_) (by rfl) rfl ?_ ?_
     rotate_left
     ·go_simp
      rfl
     refine hK.out _ _ ⟨((cell_far (p := ⟨gb205, _, none⟩) NB216_205.out _).trans (((cell_far (p := ⟨gb205, _, none⟩) NB216_205.out _).trans (((cell_far (p := ⟨gb205, _, none⟩) NB216_205.out _).trans (hHeld.1)))))), ((cell_far (p := ⟨gb205, _, none⟩) NB216_205.out _).trans (((cell_far (p := ⟨gb205, _, none⟩) NB216_205.out _).trans (((cell_far (p := ⟨gb205, _, none⟩) NB216_205.out _).trans (hHeld.2.1)))))), ((cell_far (p := ⟨gb205, _, none⟩) NB216_205.out _).trans (((cell_far (p := ⟨gb205, _, none⟩) NB216_205.out _).trans (((cell_far (p := ⟨gb205, _, none⟩) NB216_205.out _).trans (hHeld.2.2.1)))))), ((cell_far (p := ⟨gb205, _, none⟩) NB216_205.out _).trans (((cell_far (p := ⟨gb205, _, none⟩) NB216_205.out _).trans (((cell_far (p := ⟨gb205, _, none⟩) NB216_205.out _).trans (hHeld.2.2.2.1)))))), ((cell_far (p := ⟨gb205, _, none⟩) NB204_205.out _).trans (((cell_far (p := ⟨gb205, _, none⟩) NB204_205.out _).trans (((cell_far (p := ⟨gb205, _, none⟩) NB204_205.out _).trans (hHeld.2.2.2.2.1)))))), ((cell_far (p := ⟨gb205, _, none⟩) NB204_205.out _).trans (((cell_far (p := ⟨gb205, _, none⟩) NB204_205.out _).trans (((cell_far (p := ⟨gb205, _, none⟩) NB204_205.out _).trans (hHeld.2.2.2.2.2.1)))))), ((cell_far (p := ⟨gb205, _, none⟩) NB204_205.out _).trans (((cell_far (p := ⟨gb205, _, none⟩) NB204_205.out _).trans (((cell_far (p := ⟨gb205, _, none⟩) NB204_205.out _).trans (hHeld.2.2.2.2.2.2.1)))))), ((cell_far (p := ⟨gb205, _, none⟩) NB204_205.out _).trans (((cell_far (p := ⟨gb205, _, none⟩) NB204_205.out _).trans (((cell_far (p := ⟨gb205, _, none⟩) NB204_205.out _).trans (hHeld.2.2.2.2.2.2.2.1)))))), ((cell_far (p := ⟨gb205, _, none⟩) NB204_205.out _).trans (((cell_far (p := ⟨gb205, _, none⟩) NB204_205.out _).trans (((cell_far (p := ⟨gb205, _, none⟩) NB204_205.out _).trans (hHeld.2.2.2.2.2.2.2.2.1)))))), ((cell_far (p := ⟨gb205, _, none⟩) NB204_205.out _).trans (((cell_far (p := ⟨gb205, _, none⟩) NB204_205.out _).trans (((cell_far (p := ⟨gb205, _, none⟩) NB204_205.out _).trans (hHeld.2.2.2.2.2.2.2.2.2))))))⟩ (fun hHeld => ?_)
     clear hK K
     refine pure_ (i := 9) (N := some 5) (v := ?_) (a' := ?_) #[true, true, true, true, true, true, true, true, true, true] rfl rfl (any_of HT_.out (by kernel_rfl)) (fun _ _ _ h => h) (Or.inl ⟨by rfl, ?_⟩) ?_ ?_
     rotate_left
     ·intro w'
      go_simp
      with_reducible rfl
     rotate_left; (simp only [Act.put, List.setIfInBounds_toArray, List.set_cons_zero, List.set_cons_succ, i64_w, i32_w]; rfl)
     refine done_ (done_of HT_.out (by kernel_rfl)) ?_
     try go_wp2
     refine bodyPost_ret (results_ct rfl _ _ gb205 24 #[.int .i64 t225, .int .i64 t226, .slice Ao63 t227.length co63] (0, 0) _ rfl (by refine blk_put (cs := #[.int .i64 t225, .int .i64 t226, .slice none 0 0]) ?_ 2 _ rfl; refine blk_put (cs := #[.int .i64 t225, .int .i64 0, .slice none 0 0]) ?_ 1 _ rfl; refine blk_put (cs := #[.int .i64 0, .int .i64 0, .slice none 0 0]) ?_ 0 _ rfl; exact BK205.out) Try.underlying24 rfl (by kernel_rfl)) rfl ?_
     exact ⟨_, by first | rfl | (simp [errW_none, errW_some] <;> rfl) | (simp [*, errW_none, errW_some] <;> rfl), by (with_reducible repeat (first | apply Kd.R_alloc | apply Kd.R_drewN | apply Kd.R_drew)); exact Kd.R_mono (rf3 (Kd.R_types HO229.out BK205.out (by decide)) (fun _ hk => hk.2) (.int .i64 t225) (.int .i64 t226) (.slice Ao63 t227.length co63)) (fun _ hk => trivial), by repeat (with_reducible first | exact HB.out | apply pw_below_drewN | apply below_drew1 | refine below_set ?_ (Aside0.out (by assumption)))⟩
    ·replace c37 := Bool.eq_false_iff.mpr c37
     subst c37
     rw [if_neg (show ¬ (false = true) by decide)] at H; try dsimp only at H
     by_cases c65 : (l0_2.length : Int) = a0_0
     ·rw [if_pos c65] at H
      have c65b0 : ((l0_2.length : Int) == a0_0) = true := beq_iff_eq.mpr c65
      have c65b1 : ((l0_2.length : Int) != a0_0) = false := bne_eq_false_iff_eq.mpr c65
      clear c65
      simp only [Option.some.injEq, Prod.mk.injEq] at H
      obtain ⟨rfl, rfl, rfl, rfl⟩ := H
      have hnb66 := NB203_204.out
      have hnc66 := NB204_203.out
      have hnb67 := NB203_205.out
      have hnc67 := NB205_203.out
      have hcz68_0 : wc.cell? ⟨gb203, 0, none⟩ = some (.int .i64 a0_0) := (blk_cell BK203.out 0).trans rfl
      have hcz68_1 : wc.cell? ⟨gb203, 1, none⟩ = some (.int .i64 a0_1) := (blk_cell BK203.out 1).trans rfl
      have hcz68_2 : wc.cell? ⟨gb203, 2, none⟩ = some (.slice A0_2 l0_2.length c0_2) := (blk_cell BK203.out 2).trans rfl
      have hfz68_0 := blk_frozen BK203.out 0
      have hfz68_1 := blk_frozen BK203.out 1
      have hfz68_2 := blk_frozen BK203.out 2
      go_wp2_with (first | ((with_reducible refine gate_callee (f := 51) rfl ?_); refine goesL_ (some 26) rfl rfl Try.func51 (by kernel_rfl) rfl #[.agg #[.int .i64 a0_0, .int .i64 a0_1, .slice A0_2 l0_2.length c0_2]] rfl (by (try simp only [List.map_toArray, List.map_cons, List.map_nil]); first | done | rfl | (simp only [List.length_drop, List.length_take]; rfl)) ?_; (with_reducible refine (board_open.calls a0_0 a0_1 (fun k_ => k_ < w.heap.size) _ _ l0_2 t208 t211 t212 t213 _ ?side1 A35.out).mono ?_); (case side1 => exact Kd.V_mk HC0_2.out (Kd.F_below (Kd.C_F k28_heap HR0_2.out) (by repeat (with_reducible first | exact HB.out | apply pw_below_drewN | apply below_drew1 | refine below_set ?_ (Aside0.out (by assumption)))))); rintro e w69 ⟨v209, v214, rfl, ho0, ho1, hb⟩; refine ⟨_, rfl, ?_⟩; have HO210 := Aside0.mk (Kd.V_lower (Kd.V_mono (ok' := fun k_ => k_ ≠ gb203 ∧ k_ ≠ gb204 ∧ k_ ≠ gb205) ho0 (fun k_ hk_ => ⟨Or.elim hk_ (fun hs_ => fun e_ => Nat.not_le.2 hs_ (by rw [e_]; exact GW203.out)) (fun hn_ => (Kd.freshB (g := gb203) (o := .cells #[.int .i64 a0_0, .int .i64 a0_1, .slice A0_2 l0_2.length c0_2] 24 (0, 0)) BK203.out k_ hn_)), Or.elim hk_ (fun hs_ => fun e_ => Nat.not_le.2 hs_ (by rw [e_]; exact GW204.out)) (fun hn_ => (Kd.freshB (g := gb204) (o := .cells #[.int .i64 a1_0, .int .i64 a1_1, .int .i64 a1_2, .int .i64 a1_3, .int .i64 a1_4, .int .i64 a1_5] 28 (0, 0)) BK204.out k_ hn_)), Or.elim hk_ (fun hs_ => fun e_ => Nat.not_le.2 hs_ (by rw [e_]; exact GW205.out)) (fun hn_ => (Kd.freshB (g := gb205) (o := .cells #[.int .i64 0, .int .i64 0, .slice none 0 0] 24 (0, 0)) BK205.out k_ hn_))⟩)) (below_size (by repeat (with_reducible first | exact HB.out | apply pw_below_drewN | apply below_drew1 | refine below_set ?_ (Aside0.out (by assumption)))))); have HO215 := Aside0.mk (Kd.V_lower (Kd.V_mono (ok' := fun k_ => k_ ≠ gb203 ∧ k_ ≠ gb204 ∧ k_ ≠ gb205) ho1 (fun k_ hk_ => ⟨Or.elim hk_ (fun hs_ => fun e_ => Nat.not_le.2 hs_ (by rw [e_]; exact GW203.out)) (fun hn_ => (Kd.freshB (g := gb203) (o := .cells #[.int .i64 a0_0, .int .i64 a0_1, .slice A0_2 l0_2.length c0_2] 24 (0, 0)) BK203.out k_ hn_)), Or.elim hk_ (fun hs_ => fun e_ => Nat.not_le.2 hs_ (by rw [e_]; exact GW204.out)) (fun hn_ => (Kd.freshB (g := gb204) (o := .cells #[.int .i64 a1_0, .int .i64 a1_1, .int .i64 a1_2, .int .i64 a1_3, .int .i64 a1_4, .int .i64 a1_5] 28 (0, 0)) BK204.out k_ hn_)), Or.elim hk_ (fun hs_ => fun e_ => Nat.not_le.2 hs_ (by rw [e_]; exact GW205.out)) (fun hn_ => (Kd.freshB (g := gb205) (o := .cells #[.int .i64 0, .int .i64 0, .slice none 0 0] 24 (0, 0)) BK205.out k_ hn_))⟩)) (below_size (by repeat (with_reducible first | exact HB.out | apply pw_below_drewN | apply below_drew1 | refine below_set ?_ (Aside0.out (by assumption)))))); replace BK203 := bl_ BK203 hb; replace BK204 := bl_ BK204 hb; replace BK205 := bl_ BK205 hb; replace HB := Aside0.mk (below_step (by repeat (with_reducible first | exact HB.out | apply pw_below_drewN | apply below_drew1 | refine below_set ?_ (Aside0.out (by assumption)))) hb); (try clear hb); (try clear hb2); (try clear hk); (try clear hi); (try clear ho0); (try clear ho1)) | ((with_reducible refine gate_dst (N := 6) rfl ?_); refine box_event ?hg (N := 6) ?hd (cs := #[.slice none 0 0, .int .i64 0, .int .i64 0, .slice none 0 0]) (t := 72) ?hr ?_; (case hd => rfl); (case hg => rfl); (case hr => first | (go_simp; done) | (go_simp; rfl)); intro gb216 hg w70 hbox hb; replace HO210 := Aside0.mk (Kd.V_below (Kd.V_elderB (HO210.out) gb216 (Nat.le_of_eq hg.symm)) hb); replace HO215 := Aside0.mk (Kd.V_below (Kd.V_elderB (HO215.out) gb216 (Nat.le_of_eq hg.symm)) hb); have BK216 := Aside0.mk (hbox); have GW216 := Aside0.mk ((by rw [hg]; exact (below_size (by repeat (with_reducible first | exact HB.out | apply pw_below_drewN | apply below_drew1 | refine below_set ?_ (Aside0.out (by assumption))))) : w.heap.size ≤ gb216)); have GE216 := Aside0.mk ((by rw [hg]; exact (below_size (by repeat (with_reducible first | exact HB.out | apply pw_below_drewN | apply below_drew1 | refine below_set ?_ (Aside0.out (by assumption))))) : w.heap.size ≤ gb216)); replace HB := Aside0.mk (below_step (by repeat (with_reducible first | exact HB.out | apply pw_below_drewN | apply below_drew1 | refine below_set ?_ (Aside0.out (by assumption)))) hb); have NB203_216 := Aside0.mk ((by rw [hg]; exact Nat.ne_of_lt (blk_lt BK203.out) : gb203 ≠ gb216)); have NB216_203 := Aside0.mk ((by rw [hg]; exact Nat.ne_of_gt (blk_lt BK203.out) : gb216 ≠ gb203)); replace BK203 := bl_ BK203 hb; have NB204_216 := Aside0.mk ((by rw [hg]; exact Nat.ne_of_lt (blk_lt BK204.out) : gb204 ≠ gb216)); have NB216_204 := Aside0.mk ((by rw [hg]; exact Nat.ne_of_gt (blk_lt BK204.out) : gb216 ≠ gb204)); replace BK204 := bl_ BK204 hb; have NB205_216 := Aside0.mk ((by rw [hg]; exact Nat.ne_of_lt (blk_lt BK205.out) : gb205 ≠ gb216)); have NB216_205 := Aside0.mk ((by rw [hg]; exact Nat.ne_of_gt (blk_lt BK205.out) : gb216 ≠ gb205)); replace BK205 := bl_ BK205 hb; clear hb hbox hg; obtain ⟨Ao71, co71, eo71⟩ := Kd.V_slice HO210.out; subst eo71; have hnb72 := NB216_203.out; have hnc72 := NB203_216.out; have hnb73 := NB216_204.out; have hnc73 := NB204_216.out; have hnb74 := NB216_205.out; have hnc74 := NB205_216.out; have hcz75_0 : w70.cell? ⟨gb216, 0, none⟩ = some (.slice none 0 0) := (blk_cell BK216.out 0).trans rfl; have hcz75_1 : w70.cell? ⟨gb216, 1, none⟩ = some (.int .i64 0) := (blk_cell BK216.out 1).trans rfl; have hcz75_2 : w70.cell? ⟨gb216, 2, none⟩ = some (.int .i64 0) := (blk_cell BK216.out 2).trans rfl; have hcz75_3 : w70.cell? ⟨gb216, 3, none⟩ = some (.slice none 0 0) := (blk_cell BK216.out 3).trans rfl; have hfz75_0 := blk_frozen BK216.out 0; have hfz75_1 := blk_frozen BK216.out 1; have hfz75_2 := blk_frozen BK216.out 2; have hfz75_3 := blk_frozen BK216.out 3; obtain ⟨Ao76, co76, eo76⟩ := Kd.V_slice HO215.out; subst eo76; have hnb77 := NB204_205.out; have hnc77 := NB205_204.out; have hcz78_0 : w70.cell? ⟨gb204, 0, none⟩ = some (.int .i64 a1_0) := (blk_cell BK204.out 0).trans rfl; have hcz78_1 : w70.cell? ⟨gb204, 1, none⟩ = some (.int .i64 a1_1) := (blk_cell BK204.out 1).trans rfl; have hcz78_2 : w70.cell? ⟨gb204, 2, none⟩ = some (.int .i64 a1_2) := (blk_cell BK204.out 2).trans rfl; have hcz78_3 : w70.cell? ⟨gb204, 3, none⟩ = some (.int .i64 a1_3) := (blk_cell BK204.out 3).trans rfl; have hcz78_4 : w70.cell? ⟨gb204, 4, none⟩ = some (.int .i64 a1_4) := (blk_cell BK204.out 4).trans rfl; have hcz78_5 : w70.cell? ⟨gb204, 5, none⟩ = some (.int .i64 a1_5) := (blk_cell BK204.out 5).trans rfl; have hfz78_0 := blk_frozen BK204.out 0; have hfz78_1 := blk_frozen BK204.out 1; have hfz78_2 := blk_frozen BK204.out 2; have hfz78_3 := blk_frozen BK204.out 3; have hfz78_4 := blk_frozen BK204.out 4; have hfz78_5 := blk_frozen BK204.out 5) | ((with_reducible refine gate_callee (f := 52) rfl ?_); refine goesL_ (some 32) rfl rfl Try.func52 (by kernel_rfl) rfl #[.slice Ao71 t208.length co71, .agg #[.int .i64 a1_0, .int .i64 a1_1]] rfl (by (try simp only [List.map_toArray, List.map_cons, List.map_nil]); first | done | rfl | (simp only [List.length_drop, List.length_take]; rfl)) ?_; (with_reducible refine (board_alarms_find.calls kj2 _ _ t208 a1_0 a1_1 t217 false _ ?side1 ?side2 A36.out).mono ?_); (case side1 => refine (Kd.V_reads' (e := 28) (base := w.heap.size) (ok := fun k_ => ((k_ ≠ gb203 ∧ (k_ ≠ gb204 ∧ k_ ≠ gb205)) ∧ k_ ≠ gb216)) (n := t208.length) (c := co71) ?_).2.2; exact (by (with_reducible repeat (first | apply Kd.V_alloc | apply Kd.V_drewN | apply Kd.V_drew)); exact (Kd.V_mono (Kd.V_far (p := ⟨gb216, 3, none⟩) (Kd.V_far (p := ⟨gb216, 2, none⟩) (Kd.V_far (p := ⟨gb216, 1, none⟩) (Kd.V_far (p := ⟨gb216, 0, none⟩) (Kd.V_mono HO210.out (fun k_ hk => (⟨hk, hk.2⟩ : _ ∧ k_ ≠ gb216))) (fun _ hk => hk.2) (.slice Ao71 t208.length co71)) (fun _ hk => hk.2) (.int .i64 t211)) (fun _ hk => hk.2) (.int .i64 t212)) (fun _ hk => hk.2) (.slice Ao76 t213.length co76)) (fun _ h_ => h_.1)))); (case side2 => exact (Kd.V_reads' HO210.out).2.1); rintro e w79 ⟨rfl, hb⟩; refine ⟨_, rfl, ?_⟩; replace HO210 := Aside0.mk (Kd.V_below (by (with_reducible repeat (first | apply Kd.V_alloc | apply Kd.V_drewN | apply Kd.V_drew)); exact (Kd.V_mono (Kd.V_far (p := ⟨gb216, 3, none⟩) (Kd.V_far (p := ⟨gb216, 2, none⟩) (Kd.V_far (p := ⟨gb216, 1, none⟩) (Kd.V_far (p := ⟨gb216, 0, none⟩) (Kd.V_mono HO210.out (fun k_ hk => (⟨hk, hk.2⟩ : _ ∧ k_ ≠ gb216))) (fun _ hk => hk.2) (.slice Ao71 t208.length co71)) (fun _ hk => hk.2) (.int .i64 t211)) (fun _ hk => hk.2) (.int .i64 t212)) (fun _ hk => hk.2) (.slice Ao76 t213.length co76)) (fun _ h_ => h_.1))) hb); replace HO215 := Aside0.mk (Kd.V_below (by (with_reducible repeat (first | apply Kd.V_alloc | apply Kd.V_drewN | apply Kd.V_drew)); exact (Kd.V_mono (Kd.V_far (p := ⟨gb216, 3, none⟩) (Kd.V_far (p := ⟨gb216, 2, none⟩) (Kd.V_far (p := ⟨gb216, 1, none⟩) (Kd.V_far (p := ⟨gb216, 0, none⟩) (Kd.V_mono HO215.out (fun k_ hk => (⟨hk, hk.2⟩ : _ ∧ k_ ≠ gb216))) (fun _ hk => hk.2) (.slice Ao71 t208.length co71)) (fun _ hk => hk.2) (.int .i64 t211)) (fun _ hk => hk.2) (.int .i64 t212)) (fun _ hk => hk.2) (.slice Ao76 t213.length co76)) (fun _ h_ => h_.1))) hb); replace BK203 := Aside0.mk (blk_below (g := gb203) (o := .cells #[.int .i64 a0_0, .int .i64 a0_1, .slice A0_2 l0_2.length c0_2] 24 (0, 0)) (by refine blk_far ?_ NB203_216.out _; refine blk_far ?_ NB203_216.out _; refine blk_far ?_ NB203_216.out _; refine blk_far ?_ NB203_216.out _; exact BK203.out) hb); replace BK204 := Aside0.mk (blk_below (g := gb204) (o := .cells #[.int .i64 a1_0, .int .i64 a1_1, .int .i64 a1_2, .int .i64 a1_3, .int .i64 a1_4, .int .i64 a1_5] 28 (0, 0)) (by refine blk_far ?_ NB204_216.out _; refine blk_far ?_ NB204_216.out _; refine blk_far ?_ NB204_216.out _; refine blk_far ?_ NB204_216.out _; exact BK204.out) hb); replace BK205 := Aside0.mk (blk_below (g := gb205) (o := .cells #[.int .i64 0, .int .i64 0, .slice none 0 0] 24 (0, 0)) (by refine blk_far ?_ NB205_216.out _; refine blk_far ?_ NB205_216.out _; refine blk_far ?_ NB205_216.out _; refine blk_far ?_ NB205_216.out _; exact BK205.out) hb); replace BK216 := Aside0.mk (blk_below (g := gb216) (o := .cells #[.slice Ao71 t208.length co71, .int .i64 t211, .int .i64 t212, .slice Ao76 t213.length co76] 72 (0, 0)) (by refine blk_put (cs := #[.slice Ao71 t208.length co71, .int .i64 t211, .int .i64 t212, .slice none 0 0]) ?_ 3 _ rfl; refine blk_put (cs := #[.slice Ao71 t208.length co71, .int .i64 t211, .int .i64 0, .slice none 0 0]) ?_ 2 _ rfl; refine blk_put (cs := #[.slice Ao71 t208.length co71, .int .i64 0, .int .i64 0, .slice none 0 0]) ?_ 1 _ rfl; refine blk_put (cs := #[.slice none 0 0, .int .i64 0, .int .i64 0, .slice none 0 0]) ?_ 0 _ rfl; exact BK216.out) hb); replace HB := Aside0.mk (below_step (by repeat (with_reducible first | exact HB.out | apply pw_below_drewN | apply below_drew1 | refine below_set ?_ (Aside0.out (by assumption)))) hb); (try clear hb); (try clear hb2); (try clear hk); (try clear hi); have hcz80_0 : w79.cell? ⟨gb203, 0, none⟩ = some (.int .i64 a0_0) := (blk_cell BK203.out 0).trans rfl; have hcz80_1 : w79.cell? ⟨gb203, 1, none⟩ = some (.int .i64 a0_1) := (blk_cell BK203.out 1).trans rfl; have hcz80_2 : w79.cell? ⟨gb203, 2, none⟩ = some (.slice A0_2 l0_2.length c0_2) := (blk_cell BK203.out 2).trans rfl; have hfz80_0 := blk_frozen BK203.out 0; have hfz80_1 := blk_frozen BK203.out 1; have hfz80_2 := blk_frozen BK203.out 2; have hcz81_0 : w79.cell? ⟨gb205, 0, none⟩ = some (.int .i64 0) := (blk_cell BK205.out 0).trans rfl; have hcz81_1 : w79.cell? ⟨gb205, 1, none⟩ = some (.int .i64 0) := (blk_cell BK205.out 1).trans rfl; have hcz81_2 : w79.cell? ⟨gb205, 2, none⟩ = some (.slice none 0 0) := (blk_cell BK205.out 2).trans rfl; have hfz81_0 := blk_frozen BK205.out 0; have hfz81_1 := blk_frozen BK205.out 1; have hfz81_2 := blk_frozen BK205.out 2))
      refine bodyPost_ret (results_ct rfl _ _ gb205 24 #[.int .i64 0, .int .i64 0, .slice none 0 0] (0, 0) _ rfl (by refine blk_put (cs := #[.int .i64 0, .int .i64 0, .slice none 0 0]) ?_ 2 _ rfl; refine blk_put (cs := #[.int .i64 0, .int .i64 0, .slice none 0 0]) ?_ 1 _ rfl; refine blk_put (cs := #[.int .i64 0, .int .i64 0, .slice none 0 0]) ?_ 0 _ rfl; exact BK205.out) Try.underlying24 rfl (by kernel_rfl)) rfl ?_
      exact ⟨_, by first | rfl | (simp [errW_none, errW_some] <;> rfl) | (simp [*, errW_none, errW_some] <;> rfl), by first | exact Kd.R_nil _ _ _ _ _ | exact Kd.N_nil _ _ _ _ _ | exact Kd.V_nil _ _ _ _ _ | exact Kd.Q_nil _ _ _ _ _ | exact Kd.S_nil _ _ _ _ _, by repeat (with_reducible first | exact HB.out | apply pw_below_drewN | apply below_drew1 | refine below_set ?_ (Aside0.out (by assumption)))⟩
     ·rw [if_neg c65] at H
      have c65b0 : ((l0_2.length : Int) == a0_0) = false := beq_eq_false_iff_ne.mpr c65
      have c65b1 : ((l0_2.length : Int) != a0_0) = true := bne_iff_ne.mpr c65
      obtain ⟨y230, hy230⟩ : ∃ y_ : List (S28), y_ = (([(⟨(⟨a1_0, a1_1⟩ : S26), a1_2, a1_3, a1_4, a1_5⟩ : S28)] : List (S28))) := ⟨_, rfl⟩
      replace H : ((board_alarms_with.f kj2 t208 t217 0 y230).bind fun t233 => ((board_sheet_now.f t208 t211 t212 t213 t233).bind fun bt236 => (some (bt236.1, bt236.2.1, bt236.2.2, 0)))) = some (r1, r2, r3, r4) := by first | (rw [hy230]; with_reducible exact H) | (have H2_ := (Option.bind_some _ _).symm.trans H; rw [hy230]; with_reducible exact H2_) | (have H2_ := (Option.bind_some _ _).symm.trans H; with_reducible exact H2_) | with_reducible exact H | (rw [hy230]; exact H) | exact H
      have Ny230 := Aside0.mk hy230
      clear hy230
      replace H := Option.bind_eq_some_iff.mp H
      obtain ⟨t233, A820, H⟩ := H
      try dsimp only at H
      have A82 := Aside0.mk A820
      clear A820
      replace H := Option.bind_eq_some_iff.mp H
      obtain ⟨⟨t236, t237, t238⟩, A830, H⟩ := H
      try dsimp only at H
      have A83 := Aside0.mk A830
      clear A830
      simp only [Option.some.injEq, Prod.mk.injEq] at H
      obtain ⟨rfl, rfl, rfl, rfl⟩ := H
      have hnb84 := NB203_204.out
      have hnc84 := NB204_203.out
      have hnb85 := NB203_205.out
      have hnc85 := NB205_203.out
      have hcz86_0 : wc.cell? ⟨gb203, 0, none⟩ = some (.int .i64 a0_0) := (blk_cell BK203.out 0).trans rfl
      have hcz86_1 : wc.cell? ⟨gb203, 1, none⟩ = some (.int .i64 a0_1) := (blk_cell BK203.out 1).trans rfl
      have hcz86_2 : wc.cell? ⟨gb203, 2, none⟩ = some (.slice A0_2 l0_2.length c0_2) := (blk_cell BK203.out 2).trans rfl
      have hfz86_0 := blk_frozen BK203.out 0
      have hfz86_1 := blk_frozen BK203.out 1
      have hfz86_2 := blk_frozen BK203.out 2
      try go_wp2_with (first | ((with_reducible refine gate_callee (f := 51) rfl ?_); refine goesL_ (some 26) rfl rfl Try.func51 (by kernel_rfl) rfl #[.agg #[.int .i64 a0_0, .int .i64 a0_1, .slice A0_2 l0_2.length c0_2]] rfl (by (try simp only [List.map_toArray, List.map_cons, List.map_nil]); first | done | rfl | (simp only [List.length_drop, List.length_take]; rfl)) ?_; (with_reducible refine (board_open.calls a0_0 a0_1 (fun k_ => k_ < w.heap.size) _ _ l0_2 t208 t211 t212 t213 _ ?side1 A35.out).mono ?_); (case side1 => exact Kd.V_mk HC0_2.out (Kd.F_below (Kd.C_F k28_heap HR0_2.out) (by repeat (with_reducible first | exact HB.out | apply pw_below_drewN | apply below_drew1 | refine below_set ?_ (Aside0.out (by assumption)))))); rintro e w87 ⟨v209, v214, rfl, ho0, ho1, hb⟩; refine ⟨_, rfl, ?_⟩; have HO210 := Aside0.mk (Kd.V_lower (Kd.V_mono (ok' := fun k_ => k_ ≠ gb203 ∧ k_ ≠ gb204 ∧ k_ ≠ gb205) ho0 (fun k_ hk_ => ⟨Or.elim hk_ (fun hs_ => fun e_ => Nat.not_le.2 hs_ (by rw [e_]; exact GW203.out)) (fun hn_ => (Kd.freshB (g := gb203) (o := .cells #[.int .i64 a0_0, .int .i64 a0_1, .slice A0_2 l0_2.length c0_2] 24 (0, 0)) BK203.out k_ hn_)), Or.elim hk_ (fun hs_ => fun e_ => Nat.not_le.2 hs_ (by rw [e_]; exact GW204.out)) (fun hn_ => (Kd.freshB (g := gb204) (o := .cells #[.int .i64 a1_0, .int .i64 a1_1, .int .i64 a1_2, .int .i64 a1_3, .int .i64 a1_4, .int .i64 a1_5] 28 (0, 0)) BK204.out k_ hn_)), Or.elim hk_ (fun hs_ => fun e_ => Nat.not_le.2 hs_ (by rw [e_]; exact GW205.out)) (fun hn_ => (Kd.freshB (g := gb205) (o := .cells #[.int .i64 0, .int .i64 0, .slice none 0 0] 24 (0, 0)) BK205.out k_ hn_))⟩)) (below_size (by repeat (with_reducible first | exact HB.out | apply pw_below_drewN | apply below_drew1 | refine below_set ?_ (Aside0.out (by assumption)))))); have HO215 := Aside0.mk (Kd.V_lower (Kd.V_mono (ok' := fun k_ => k_ ≠ gb203 ∧ k_ ≠ gb204 ∧ k_ ≠ gb205) ho1 (fun k_ hk_ => ⟨Or.elim hk_ (fun hs_ => fun e_ => Nat.not_le.2 hs_ (by rw [e_]; exact GW203.out)) (fun hn_ => (Kd.freshB (g := gb203) (o := .cells #[.int .i64 a0_0, .int .i64 a0_1, .slice A0_2 l0_2.length c0_2] 24 (0, 0)) BK203.out k_ hn_)), Or.elim hk_ (fun hs_ => fun e_ => Nat.not_le.2 hs_ (by rw [e_]; exact GW204.out)) (fun hn_ => (Kd.freshB (g := gb204) (o := .cells #[.int .i64 a1_0, .int .i64 a1_1, .int .i64 a1_2, .int .i64 a1_3, .int .i64 a1_4, .int .i64 a1_5] 28 (0, 0)) BK204.out k_ hn_)), Or.elim hk_ (fun hs_ => fun e_ => Nat.not_le.2 hs_ (by rw [e_]; exact GW205.out)) (fun hn_ => (Kd.freshB (g := gb205) (o := .cells #[.int .i64 0, .int .i64 0, .slice none 0 0] 24 (0, 0)) BK205.out k_ hn_))⟩)) (below_size (by repeat (with_reducible first | exact HB.out | apply pw_below_drewN | apply below_drew1 | refine below_set ?_ (Aside0.out (by assumption)))))); replace BK203 := bl_ BK203 hb; replace BK204 := bl_ BK204 hb; replace BK205 := bl_ BK205 hb; replace HB := Aside0.mk (below_step (by repeat (with_reducible first | exact HB.out | apply pw_below_drewN | apply below_drew1 | refine below_set ?_ (Aside0.out (by assumption)))) hb); (try clear hb); (try clear hb2); (try clear hk); (try clear hi); (try clear ho0); (try clear ho1)) | ((with_reducible refine gate_dst (N := 6) rfl ?_); refine box_event ?hg (N := 6) ?hd (cs := #[.slice none 0 0, .int .i64 0, .int .i64 0, .slice none 0 0]) (t := 72) ?hr ?_; (case hd => rfl); (case hg => rfl); (case hr => first | (go_simp; done) | (go_simp; rfl)); intro gb216 hg w88 hbox hb; replace HO210 := Aside0.mk (Kd.V_below (Kd.V_elderB (HO210.out) gb216 (Nat.le_of_eq hg.symm)) hb); replace HO215 := Aside0.mk (Kd.V_below (Kd.V_elderB (HO215.out) gb216 (Nat.le_of_eq hg.symm)) hb); have BK216 := Aside0.mk (hbox); have GW216 := Aside0.mk ((by rw [hg]; exact (below_size (by repeat (with_reducible first | exact HB.out | apply pw_below_drewN | apply below_drew1 | refine below_set ?_ (Aside0.out (by assumption))))) : w.heap.size ≤ gb216)); have GE216 := Aside0.mk ((by rw [hg]; exact (below_size (by repeat (with_reducible first | exact HB.out | apply pw_below_drewN | apply below_drew1 | refine below_set ?_ (Aside0.out (by assumption))))) : w.heap.size ≤ gb216)); replace HB := Aside0.mk (below_step (by repeat (with_reducible first | exact HB.out | apply pw_below_drewN | apply below_drew1 | refine below_set ?_ (Aside0.out (by assumption)))) hb); have NB203_216 := Aside0.mk ((by rw [hg]; exact Nat.ne_of_lt (blk_lt BK203.out) : gb203 ≠ gb216)); have NB216_203 := Aside0.mk ((by rw [hg]; exact Nat.ne_of_gt (blk_lt BK203.out) : gb216 ≠ gb203)); replace BK203 := bl_ BK203 hb; have NB204_216 := Aside0.mk ((by rw [hg]; exact Nat.ne_of_lt (blk_lt BK204.out) : gb204 ≠ gb216)); have NB216_204 := Aside0.mk ((by rw [hg]; exact Nat.ne_of_gt (blk_lt BK204.out) : gb216 ≠ gb204)); replace BK204 := bl_ BK204 hb; have NB205_216 := Aside0.mk ((by rw [hg]; exact Nat.ne_of_lt (blk_lt BK205.out) : gb205 ≠ gb216)); have NB216_205 := Aside0.mk ((by rw [hg]; exact Nat.ne_of_gt (blk_lt BK205.out) : gb216 ≠ gb205)); replace BK205 := bl_ BK205 hb; clear hb hbox hg; obtain ⟨Ao89, co89, eo89⟩ := Kd.V_slice HO210.out; subst eo89; have hnb90 := NB216_203.out; have hnc90 := NB203_216.out; have hnb91 := NB216_204.out; have hnc91 := NB204_216.out; have hnb92 := NB216_205.out; have hnc92 := NB205_216.out; have hcz93_0 : w88.cell? ⟨gb216, 0, none⟩ = some (.slice none 0 0) := (blk_cell BK216.out 0).trans rfl; have hcz93_1 : w88.cell? ⟨gb216, 1, none⟩ = some (.int .i64 0) := (blk_cell BK216.out 1).trans rfl; have hcz93_2 : w88.cell? ⟨gb216, 2, none⟩ = some (.int .i64 0) := (blk_cell BK216.out 2).trans rfl; have hcz93_3 : w88.cell? ⟨gb216, 3, none⟩ = some (.slice none 0 0) := (blk_cell BK216.out 3).trans rfl; have hfz93_0 := blk_frozen BK216.out 0; have hfz93_1 := blk_frozen BK216.out 1; have hfz93_2 := blk_frozen BK216.out 2; have hfz93_3 := blk_frozen BK216.out 3; obtain ⟨Ao94, co94, eo94⟩ := Kd.V_slice HO215.out; subst eo94; have hnb95 := NB204_205.out; have hnc95 := NB205_204.out; have hcz96_0 : w88.cell? ⟨gb204, 0, none⟩ = some (.int .i64 a1_0) := (blk_cell BK204.out 0).trans rfl; have hcz96_1 : w88.cell? ⟨gb204, 1, none⟩ = some (.int .i64 a1_1) := (blk_cell BK204.out 1).trans rfl; have hcz96_2 : w88.cell? ⟨gb204, 2, none⟩ = some (.int .i64 a1_2) := (blk_cell BK204.out 2).trans rfl; have hcz96_3 : w88.cell? ⟨gb204, 3, none⟩ = some (.int .i64 a1_3) := (blk_cell BK204.out 3).trans rfl; have hcz96_4 : w88.cell? ⟨gb204, 4, none⟩ = some (.int .i64 a1_4) := (blk_cell BK204.out 4).trans rfl; have hcz96_5 : w88.cell? ⟨gb204, 5, none⟩ = some (.int .i64 a1_5) := (blk_cell BK204.out 5).trans rfl; have hfz96_0 := blk_frozen BK204.out 0; have hfz96_1 := blk_frozen BK204.out 1; have hfz96_2 := blk_frozen BK204.out 2; have hfz96_3 := blk_frozen BK204.out 3; have hfz96_4 := blk_frozen BK204.out 4; have hfz96_5 := blk_frozen BK204.out 5) | ((with_reducible refine gate_callee (f := 52) rfl ?_); refine goesL_ (some 32) rfl rfl Try.func52 (by kernel_rfl) rfl #[.slice Ao89 t208.length co89, .agg #[.int .i64 a1_0, .int .i64 a1_1]] rfl (by (try simp only [List.map_toArray, List.map_cons, List.map_nil]); first | done | rfl | (simp only [List.length_drop, List.length_take]; rfl)) ?_; (with_reducible refine (board_alarms_find.calls kj2 _ _ t208 a1_0 a1_1 t217 false _ ?side1 ?side2 A36.out).mono ?_); (case side1 => refine (Kd.V_reads' (e := 28) (base := w.heap.size) (ok := fun k_ => ((k_ ≠ gb203 ∧ (k_ ≠ gb204 ∧ k_ ≠ gb205)) ∧ k_ ≠ gb216)) (n := t208.length) (c := co89) ?_).2.2; exact (by (with_reducible repeat (first | apply Kd.V_alloc | apply Kd.V_drewN | apply Kd.V_drew)); exact (Kd.V_mono (Kd.V_far (p := ⟨gb216, 3, none⟩) (Kd.V_far (p := ⟨gb216, 2, none⟩) (Kd.V_far (p := ⟨gb216, 1, none⟩) (Kd.V_far (p := ⟨gb216, 0, none⟩) (Kd.V_mono HO210.out (fun k_ hk => (⟨hk, hk.2⟩ : _ ∧ k_ ≠ gb216))) (fun _ hk => hk.2) (.slice Ao89 t208.length co89)) (fun _ hk => hk.2) (.int .i64 t211)) (fun _ hk => hk.2) (.int .i64 t212)) (fun _ hk => hk.2) (.slice Ao94 t213.length co94)) (fun _ h_ => h_.1)))); (case side2 => exact (Kd.V_reads' HO210.out).2.1); rintro e w97 ⟨rfl, hb⟩; refine ⟨_, rfl, ?_⟩; replace HO210 := Aside0.mk (Kd.V_below (by (with_reducible repeat (first | apply Kd.V_alloc | apply Kd.V_drewN | apply Kd.V_drew)); exact (Kd.V_mono (Kd.V_far (p := ⟨gb216, 3, none⟩) (Kd.V_far (p := ⟨gb216, 2, none⟩) (Kd.V_far (p := ⟨gb216, 1, none⟩) (Kd.V_far (p := ⟨gb216, 0, none⟩) (Kd.V_mono HO210.out (fun k_ hk => (⟨hk, hk.2⟩ : _ ∧ k_ ≠ gb216))) (fun _ hk => hk.2) (.slice Ao89 t208.length co89)) (fun _ hk => hk.2) (.int .i64 t211)) (fun _ hk => hk.2) (.int .i64 t212)) (fun _ hk => hk.2) (.slice Ao94 t213.length co94)) (fun _ h_ => h_.1))) hb); replace HO215 := Aside0.mk (Kd.V_below (by (with_reducible repeat (first | apply Kd.V_alloc | apply Kd.V_drewN | apply Kd.V_drew)); exact (Kd.V_mono (Kd.V_far (p := ⟨gb216, 3, none⟩) (Kd.V_far (p := ⟨gb216, 2, none⟩) (Kd.V_far (p := ⟨gb216, 1, none⟩) (Kd.V_far (p := ⟨gb216, 0, none⟩) (Kd.V_mono HO215.out (fun k_ hk => (⟨hk, hk.2⟩ : _ ∧ k_ ≠ gb216))) (fun _ hk => hk.2) (.slice Ao89 t208.length co89)) (fun _ hk => hk.2) (.int .i64 t211)) (fun _ hk => hk.2) (.int .i64 t212)) (fun _ hk => hk.2) (.slice Ao94 t213.length co94)) (fun _ h_ => h_.1))) hb); replace BK203 := Aside0.mk (blk_below (g := gb203) (o := .cells #[.int .i64 a0_0, .int .i64 a0_1, .slice A0_2 l0_2.length c0_2] 24 (0, 0)) (by refine blk_far ?_ NB203_216.out _; refine blk_far ?_ NB203_216.out _; refine blk_far ?_ NB203_216.out _; refine blk_far ?_ NB203_216.out _; exact BK203.out) hb); replace BK204 := Aside0.mk (blk_below (g := gb204) (o := .cells #[.int .i64 a1_0, .int .i64 a1_1, .int .i64 a1_2, .int .i64 a1_3, .int .i64 a1_4, .int .i64 a1_5] 28 (0, 0)) (by refine blk_far ?_ NB204_216.out _; refine blk_far ?_ NB204_216.out _; refine blk_far ?_ NB204_216.out _; refine blk_far ?_ NB204_216.out _; exact BK204.out) hb); replace BK205 := Aside0.mk (blk_below (g := gb205) (o := .cells #[.int .i64 0, .int .i64 0, .slice none 0 0] 24 (0, 0)) (by refine blk_far ?_ NB205_216.out _; refine blk_far ?_ NB205_216.out _; refine blk_far ?_ NB205_216.out _; refine blk_far ?_ NB205_216.out _; exact BK205.out) hb); replace BK216 := Aside0.mk (blk_below (g := gb216) (o := .cells #[.slice Ao89 t208.length co89, .int .i64 t211, .int .i64 t212, .slice Ao94 t213.length co94] 72 (0, 0)) (by refine blk_put (cs := #[.slice Ao89 t208.length co89, .int .i64 t211, .int .i64 t212, .slice none 0 0]) ?_ 3 _ rfl; refine blk_put (cs := #[.slice Ao89 t208.length co89, .int .i64 t211, .int .i64 0, .slice none 0 0]) ?_ 2 _ rfl; refine blk_put (cs := #[.slice Ao89 t208.length co89, .int .i64 0, .int .i64 0, .slice none 0 0]) ?_ 1 _ rfl; refine blk_put (cs := #[.slice none 0 0, .int .i64 0, .int .i64 0, .slice none 0 0]) ?_ 0 _ rfl; exact BK216.out) hb); replace HB := Aside0.mk (below_step (by repeat (with_reducible first | exact HB.out | apply pw_below_drewN | apply below_drew1 | refine below_set ?_ (Aside0.out (by assumption)))) hb); (try clear hb); (try clear hb2); (try clear hk); (try clear hi); have hcz98_0 : w97.cell? ⟨gb203, 0, none⟩ = some (.int .i64 a0_0) := (blk_cell BK203.out 0).trans rfl; have hcz98_1 : w97.cell? ⟨gb203, 1, none⟩ = some (.int .i64 a0_1) := (blk_cell BK203.out 1).trans rfl; have hcz98_2 : w97.cell? ⟨gb203, 2, none⟩ = some (.slice A0_2 l0_2.length c0_2) := (blk_cell BK203.out 2).trans rfl; have hfz98_0 := blk_frozen BK203.out 0; have hfz98_1 := blk_frozen BK203.out 1; have hfz98_2 := blk_frozen BK203.out 2))
      replace HO210 := Aside0.mk (Kd.V_drew HO210.out)
      replace HO215 := Aside0.mk (Kd.V_drew HO215.out)
      replace BK203 := Aside0.mk (blk_drew BK203.out)
      replace BK204 := Aside0.mk (blk_drew BK204.out)
      replace BK205 := Aside0.mk (blk_drew BK205.out)
      replace BK216 := Aside0.mk (blk_drew BK216.out)
      replace HB := Aside0.mk (below_drew1 HB.out)
      refine start_ (n := 10) (S := fun w' => w'.cell? ⟨gb216, 0, none⟩ = some (.slice Ao89 t208.length co89) ∧ w'.cell? ⟨gb216, 1, none⟩ = some (.int .i64 t211) ∧ w'.cell? ⟨gb216, 2, none⟩ = some (.int .i64 t212) ∧ w'.cell? ⟨gb216, 3, none⟩ = some (.slice Ao94 t213.length co94) ∧ w'.cell? ⟨gb204, 0, none⟩ = some (.int .i64 a1_0) ∧ w'.cell? ⟨gb204, 1, none⟩ = some (.int .i64 a1_1) ∧ w'.cell? ⟨gb204, 2, none⟩ = some (.int .i64 a1_2) ∧ w'.cell? ⟨gb204, 3, none⟩ = some (.int .i64 a1_3) ∧ w'.cell? ⟨gb204, 4, none⟩ = some (.int .i64 a1_4) ∧ w'.cell? ⟨gb204, 5, none⟩ = some (.int .i64 a1_5)) (ds := []) #[false, false, false, false, false, false, false, false, false, false] (by kernel_rfl) rfl rfl ⟨(blk_cell BK216.out 0).trans rfl, (blk_cell BK216.out 1).trans rfl, (blk_cell BK216.out 2).trans rfl, (blk_cell BK216.out 3).trans rfl, (blk_cell BK204.out 0).trans rfl, (blk_cell BK204.out 1).trans rfl, (blk_cell BK204.out 2).trans rfl, (blk_cell BK204.out 3).trans rfl, (blk_cell BK204.out 4).trans rfl, (blk_cell BK204.out 5).trans rfl⟩ (fun hHeld => ?_); refine with_tabW board_Put.tab9 board_Put.bits9 (fun HT_ HW_ => ?_)
      generalize w97.drew = w99 at HO210 HO215 BK203 BK204 BK205 BK216 HB hHeld ⊢
      have Q_ := Qs.mk (n := 10) [(0, 1, 54, 2), (0, 3, 56, 10), (2, 0, 53, 11), (2, 2, 55, 15), (2, 4, 57, 31)]
      iterate 5 (first | (obtain ⟨q_, Q_⟩ := Qs.p Q_; refine pureQ_ q_ (v := ?_) (a' := ?_) rfl rfl (any_of HT_.out (by kernel_rfl)) (fun _ _ _ h => h) (Or.inl ⟨by rfl, ?_⟩) ?_ ?_; rotate_left; (intro w'; go_simp; with_reducible rfl); rotate_left; (simp only [Act.put, List.setIfInBounds_toArray, List.set_cons_zero, List.set_cons_succ, i64_w, i32_w]; rfl)) | (obtain ⟨q_, Q_⟩ := Qs.t Q_; refine takeQ_ q_ (v := ?_) (a' := ?_) rfl rfl (take_ofW HT_.out HW_.out (by kernel_rfl)) (fun _ _ _ h => h) (Or.inl ⟨by rfl, ?_⟩) hHeld ?_ ?_; rotate_left; (rintro w' ⟨s0, s1, s2, s3, s4, s5, s6, s7, s8, s9⟩; go_simp; with_reducible rfl); rotate_left; (simp only [Act.put, List.setIfInBounds_toArray, List.set_cons_zero, List.set_cons_succ, i64_w, i32_w]; rfl)))
      clear Q_
      refine one_ (i := 5) (N := some 58) (dn_ 6 10) rfl rfl (one_of HT_.out (by kernel_rfl)) (by decide) (fun K hK => ?_)
      refine Kd.R_lit_step k28 _ 28 ?hg (N := 58) ?hd (xs := ([(⟨(⟨a1_0, a1_1⟩ : S26), a1_2, a1_3, a1_4, a1_5⟩ : S28)] : List (S28))) (inner := [.int .i64 a1_0, .int .i64 a1_1, .int .i64 a1_2, .int .i64 a1_3, .int .i64 a1_4, .int .i64 a1_5]) (ok := fun _ => True) (okp := fun _ => True) ?hr ?hp (fun _ hk => hk) trivial (Below.refl _ _) (Nat.le_refl _) (by simp) ?_; (case hd => rfl); (case hg => rfl); (case hr => first | (go_simp; done) | (go_simp; rfl)); (case hp => exact (Reps.c6 (show Kd.M k28 _ _ _ (⟨(⟨a1_0, a1_1⟩ : S26), a1_2, a1_3, a1_4, a1_5⟩ : S28) [.int .i64 a1_0, .int .i64 a1_1, .int .i64 a1_2, .int .i64 a1_3, .int .i64 a1_4, .int .i64 a1_5] from (k28_mkM _ _ _ (⟨(⟨a1_0, a1_1⟩ : S26), a1_2, a1_3, a1_4, a1_5⟩ : S28) )) (Reps.none _ _)))
      intro v231 w100 ho101 hb hg_ hnew_
      clear hg_ hnew_
      (first | rw [← Ny230.out] at ho101 | (simp only [Int.reduceToNat] at ho101; rw [← Ny230.out] at ho101))
      replace HO210 := Aside0.mk (Kd.V_elder' (HO210.out) (Kd.R_base ho101) hb)
      replace HO215 := Aside0.mk (Kd.V_elder' (HO215.out) (Kd.R_base ho101) hb)
      have HO232 := Aside0.mk (Kd.R_lower (Kd.R_newB ho101 (g := gb204) (o := .cells #[.int .i64 a1_0, .int .i64 a1_1, .int .i64 a1_2, .int .i64 a1_3, .int .i64 a1_4, .int .i64 a1_5] 28 (0, 0)) BK204.out) (below_size (by repeat (with_reducible first | exact HB.out | apply pw_below_drewN | apply below_drew1 | refine below_set ?_ (Aside0.out (by assumption))))))
      replace BK203 := bl_ BK203 hb
      replace BK204 := bl_ BK204 hb
      replace BK205 := bl_ BK205 hb
      replace BK216 := bl_ BK216 hb
      replace HB := Aside0.mk (below_step (by repeat (with_reducible first | exact HB.out | apply pw_below_drewN | apply below_drew1 | refine below_set ?_ (Aside0.out (by assumption)))) hb)
      clear hb ho101
      obtain ⟨Ao102, co102, eo102⟩ := Kd.R_slice HO232.out
      (first | subst eo102 | (injection eo102 with f1_ f2_ f3_; have f4_ := f1_.symm; have f5_ := f3_.symm; clear f1_ f2_ f3_; subst f4_; subst f5_))
      refine hK.out _ _ ⟨(blk_cell BK216.out 0).trans rfl, (blk_cell BK216.out 1).trans rfl, (blk_cell BK216.out 2).trans rfl, (blk_cell BK216.out 3).trans rfl, (blk_cell BK204.out 0).trans rfl, (blk_cell BK204.out 1).trans rfl, (blk_cell BK204.out 2).trans rfl, (blk_cell BK204.out 3).trans rfl, (blk_cell BK204.out 4).trans rfl, (blk_cell BK204.out 5).trans rfl⟩ (fun hHeld => ?_)
      clear hK K
      refine norm_ (a' := ?_) ?_ ?_
      rotate_left
      ·show Act.put _ (some 58) _ = _
       simp only [Act.put, List.setIfInBounds_toArray, List.set_cons_zero, List.set_cons_succ, i64_w, i32_w]
       rfl
      refine one_ (i := 6) (N := some 59) (dn_ 7 10) rfl rfl (one_of HT_.out (by kernel_rfl)) (by decide) (fun K hK => ?_)
      refine goes_ Try.func54 (by kernel_rfl) rfl #[.slice Ao89 t208.length co89, .int .i64 t217, .int .i64 0, .slice Ao102 y230.length co102] (by rfl) rfl rfl (by (try simp only [List.map_toArray, List.map_cons, List.map_nil]); first | done | rfl | (simp only [List.length_drop, List.length_take]; rfl)) ?_
      with_reducible refine (board_alarms_with.calls kj2 (fun k_ => (((k_ ≠ gb203 ∧ (k_ ≠ gb204 ∧ k_ ≠ gb205)) ∧ k_ ≠ gb216) ∧ some k_ ≠ (.slice Ao102 y230.length co102 : Value).ownBlock)) _ _ t208 t217 0 (fun k_ => some k_ = (.slice Ao102 y230.length co102 : Value).ownBlock) _ _ y230 t233 _ ?side1 ?side2 A82.out).mono ?_
      (case side1 => exact HO210.out)
      (case side2 => exact Kd.R_V (Kd.R_tight rfl (Kd.R_types (Kd.R_types (Kd.R_types (HO232.out) BK203.out (by decide)) BK205.out (by decide)) BK216.out (by decide))))
      rintro e w103 ⟨v234, rfl, ho0, hb⟩
      refine ⟨_, rfl, ?_⟩
      replace HO210 := Aside0.mk (Kd.V_elder' (HO210.out) (Kd.R_base ho0) hb)
      replace HO215 := Aside0.mk (Kd.V_elder' (HO215.out) (Kd.R_base ho0) hb)
      have HO235 := Aside0.mk (Kd.R_lower (Kd.R_newB (Kd.R_new' (Kd.R_mono (ok' := fun k_ => True) ho0 (fun _ hk_ => trivial)) (Kd.R_lt (HO232.out))) (g := gb204) (o := .cells #[.int .i64 a1_0, .int .i64 a1_1, .int .i64 a1_2, .int .i64 a1_3, .int .i64 a1_4, .int .i64 a1_5] 28 (0, 0)) BK204.out) (below_size (by repeat (with_reducible first | exact HB.out | apply pw_below_drewN | apply below_drew1 | refine below_set ?_ (Aside0.out (by assumption))))))
      replace HO232 := Aside0.mk (Kd.R_elder' (HO232.out) (Kd.R_base ho0) hb)
      replace BK203 := bl_ BK203 hb
      replace BK204 := bl_ BK204 hb
      replace BK205 := bl_ BK205 hb
      replace BK216 := bl_ BK216 hb
      replace HB := Aside0.mk (below_step (by repeat (with_reducible first | exact HB.out | apply pw_below_drewN | apply below_drew1 | refine below_set ?_ (Aside0.out (by assumption)))) hb)
      (try clear hb)
      (try clear hb2)
      (try clear hk)
      (try clear hi)
      (try clear ho0)
      obtain ⟨Ao104, co104, eo104⟩ := Kd.R_slice HO235.out
      (first | subst eo104 | (injection eo104 with f1_ f2_ f3_; have f4_ := f1_.symm; have f5_ := f3_.symm; clear f1_ f2_ f3_; subst f4_; subst f5_))
      refine hK.out _ _ ⟨(blk_cell BK216.out 0).trans rfl, (blk_cell BK216.out 1).trans rfl, (blk_cell BK216.out 2).trans rfl, (blk_cell BK216.out 3).trans rfl, (blk_cell BK204.out 0).trans rfl, (blk_cell BK204.out 1).trans rfl, (blk_cell BK204.out 2).trans rfl, (blk_cell BK204.out 3).trans rfl, (blk_cell BK204.out 4).trans rfl, (blk_cell BK204.out 5).trans rfl⟩ (fun hHeld => ?_)
      clear hK K
      refine norm_ (a' := ?_) ?_ ?_
      rotate_left
      ·show Act.put _ (some 59) _ = _
       simp only [Act.put, List.setIfInBounds_toArray, List.set_cons_zero, List.set_cons_succ, i64_w, i32_w]
       rfl
      refine one_ (i := 7) (N := some 60) (dn_ 8 10) rfl rfl (one_of HT_.out (by kernel_rfl)) (by decide) (fun K hK => ?_)
      refine goes_ Try.func53 (by kernel_rfl) rfl #[.agg #[.slice Ao89 t208.length co89, .int .i64 t211, .int .i64 t212, .slice Ao94 t213.length co94], .slice Ao104 t233.length co104] (by rfl) rfl rfl (by (try simp only [List.map_toArray, List.map_cons, List.map_nil]); first | done | rfl | (simp only [List.length_drop, List.length_take]; rfl)) ?_
      with_reducible refine (board_sheet_now.calls _ _ t208 t211 t212 _ _ t213 (fun k_ => some k_ = (.slice Ao104 t233.length co104 : Value).ownBlock) (.slice Ao104 t233.length co104) t233 t236 t237 t238 w _ ?side1 ?side2 ?side3 ?side4 ?side5 ?side6 A83.out).mono ?_
      (case side1 => repeat (first | (with_reducible first | exact HB.out | apply below_alloc | apply pw_below_drewN | apply below_drew1 | refine below_set ?_ GE203.out | refine below_set ?_ GE204.out | refine below_set ?_ GE205.out | refine below_set ?_ GE216.out) | exact HB.out))
      (case side2 => exact Kd.C_kept_ownV (HO210.out) (fun k_ hk_ hs_ => (hk_.2) hs_))
      (case side3 => exact (Kd.V_reads' HO210.out).2.1)
      (case side4 => exact Kd.C_kept_ownV (HO215.out) (fun k_ hk_ hs_ => (hk_.2) hs_))
      (case side5 => exact (Kd.V_reads' HO215.out).2.1)
      (case side6 => exact Kd.R_tight rfl HO235.out)
      rintro e w105 ⟨v239, rfl, ho0, hb, hkp⟩
      refine ⟨_, rfl, ?_⟩
      replace BK203 := Aside0.mk (blk_kept BK203.out hkp (fun hs_ => (fun e_ => (Kd.R_ne HO235.out BK203.out (by decide)) e_) hs_))
      replace BK205 := Aside0.mk (blk_kept BK205.out hkp (fun hs_ => (fun e_ => (Kd.R_ne HO235.out BK205.out (by decide)) e_) hs_))
      replace HO210 := Aside0.mk (Kd.V_mono (ok' := fun k_ => some k_ ≠ (.slice Ao102 y230.length co102 : Value).ownBlock ∧ k_ ≠ gb203 ∧ k_ ≠ gb204 ∧ k_ ≠ gb205 ∧ k_ ≠ gb216 ∧ some k_ ≠ (v239 : Value).ownBlock) (Kd.V_keptB (HO210.out) hkp (fun k_ hk_ hs_ => (hk_.2) hs_)) (fun k_ hk_ => ⟨hk_.1.1.2, hk_.1.1.1.1.1, hk_.1.1.1.1.2.1, hk_.1.1.1.1.2.2, hk_.1.1.1.2, fun e_ => Or.elim (ho0.1 k_ e_.symm) (fun hs_ => hk_.2.1 hs_) (fun hn_ => Nat.not_le.2 hk_.2.2 hn_)⟩))
      replace HO215 := Aside0.mk (Kd.V_mono (ok' := fun k_ => some k_ ≠ (.slice Ao102 y230.length co102 : Value).ownBlock ∧ k_ ≠ gb203 ∧ k_ ≠ gb204 ∧ k_ ≠ gb205 ∧ k_ ≠ gb216 ∧ some k_ ≠ (v239 : Value).ownBlock) (Kd.V_keptB (HO215.out) hkp (fun k_ hk_ hs_ => (hk_.2) hs_)) (fun k_ hk_ => ⟨hk_.1.1.2, hk_.1.1.1.1.1, hk_.1.1.1.1.2.1, hk_.1.1.1.1.2.2, hk_.1.1.1.2, fun e_ => Or.elim (ho0.1 k_ e_.symm) (fun hs_ => hk_.2.1 hs_) (fun hn_ => Nat.not_le.2 hk_.2.2 hn_)⟩))
      replace BK216 := Aside0.mk (blk_kept BK216.out hkp (fun hs_ => (fun e_ => (Kd.R_ne HO235.out BK216.out (by decide)) e_) hs_))
      have HO240 := Aside0.mk (Kd.R_mono (ok' := fun k_ => some k_ ≠ (.slice Ao102 y230.length co102 : Value).ownBlock ∧ k_ ≠ gb204) ho0 (fun k_ hk_ => ⟨Or.elim hk_ (fun hs_ => fun e_ => (((HO232.out).1 k_ e_.symm).2) hs_) (fun hn_ => (Kd.fresh' (Kd.R_lt (HO232.out)) k_ hn_)), Or.elim hk_ (fun hs_ => fun e_ => (Kd.R_away HO235.out (fun _ hk => hk.2)) (by rw [← e_]; exact hs_)) (fun hn_ => (Kd.freshB (g := gb204) (o := .cells #[.int .i64 a1_0, .int .i64 a1_1, .int .i64 a1_2, .int .i64 a1_3, .int .i64 a1_4, .int .i64 a1_5] 28 (0, 0)) BK204.out k_ hn_))⟩))
      replace BK204 := Aside0.mk (blk_kept BK204.out hkp (fun hs_ => (fun e_ => (Kd.R_away HO235.out (fun _ hk => hk.2)) e_) hs_))
      replace HO232 := Aside0.mk (Kd.R_mono (ok' := fun k_ => k_ ≠ gb204 ∧ some k_ ≠ (v239 : Value).ownBlock) (Kd.R_keptB (HO232.out) hkp (fun k_ hk_ hs_ => (hk_.2) hs_)) (fun k_ hk_ => ⟨hk_.1.1.2, fun e_ => Or.elim (ho0.1 k_ e_.symm) (fun hs_ => hk_.2.1 hs_) (fun hn_ => Nat.not_le.2 hk_.2.2 hn_)⟩))
      replace HB := Aside0.mk (hb)
      clear HO235
      (try clear hb)
      (try clear hkp)
      (try clear ho0)
      obtain ⟨Ao108, co108, eo108⟩ := Kd.R_slice HO240.out
      (first | subst eo108 | (injection eo108 with f1_ f2_ f3_; have f4_ := f1_.symm; have f5_ := f3_.symm; clear f1_ f2_ f3_; subst f4_; subst f5_))
      refine hK.out _ _ ⟨(blk_cell BK216.out 0).trans rfl, (blk_cell BK216.out 1).trans rfl, (blk_cell BK216.out 2).trans rfl, (blk_cell BK216.out 3).trans rfl, (blk_cell BK204.out 0).trans rfl, (blk_cell BK204.out 1).trans rfl, (blk_cell BK204.out 2).trans rfl, (blk_cell BK204.out 3).trans rfl, (blk_cell BK204.out 4).trans rfl, (blk_cell BK204.out 5).trans rfl⟩ (fun hHeld => ?_)
      clear hK K
      refine norm_ (a' := ?_) ?_ ?_
      rotate_left
      ·show Act.put _ (some 60) _ = _
       simp only [Act.put, List.setIfInBounds_toArray, List.set_cons_zero, List.set_cons_succ, i64_w, i32_w]
       rfl
      refine one_ (i := 8) (N := none) (dn_ 9 10) rfl rfl (one_of HT_.out (by kernel_rfl)) (by decide) (fun K hK => ?_)
      have hs106 : w105.cell? ⟨gb205, 0, none⟩ = some (.int .i64 0) := (blk_cell BK205.out 0).trans rfl
      have hfs106 := blk_frozen BK205.out 0
      have hns106_0 := NB203_205.out
      have hns106_1 := NB204_205.out
      have hns106_3 := NB216_205.out
      have hms106_0 := NB205_203.out
      have hms106_1 := NB205_204.out
      have hms106_3 := NB205_216.out
      have hs107 : w105.cell? ⟨gb205, 1, none⟩ = some (.int .i64 0) := (blk_cell BK205.out 1).trans rfl
      have hfs107 := blk_frozen BK205.out 1
      have hns107_0 := NB203_205.out
      have hns107_1 := NB204_205.out
      have hns107_3 := NB216_205.out
      have hms107_0 := NB205_203.out
      have hms107_1 := NB205_204.out
      have hms107_3 := NB205_216.out
      have hs109 : w105.cell? ⟨gb205, 2, none⟩ = some (.slice none 0 0) := (blk_cell BK205.out 2).trans rfl
      have hfs109 := blk_frozen BK205.out 2
      have hns109_0 := NB203_205.out
      have hns109_1 := NB204_205.out
      have hns109_3 := NB216_205.out
      have hms109_0 := NB205_203.out
      have hms109_1 := NB205_204.out
      have hms109_3 := NB205_216.out
      refine skip_ (w1 := ?_) (by rfl) rfl ?_ ?_
      rotate_left
      ·go_simp
       rfl
      refine hK.out _ _ ⟨((cell_far (p := ⟨gb205, _, none⟩) NB216_205.out _).trans (((cell_far (p := ⟨gb205, _, none⟩) NB216_205.out _).trans (((cell_far (p := ⟨gb205, _, none⟩) NB216_205.out _).trans (hHeld.1)))))), ((cell_far (p := ⟨gb205, _, none⟩) NB216_205.out _).trans (((cell_far (p := ⟨gb205, _, none⟩) NB216_205.out _).trans (((cell_far (p := ⟨gb205, _, none⟩) NB216_205.out _).trans (hHeld.2.1)))))), ((cell_far (p := ⟨gb205, _, none⟩) NB216_205.out _).trans (((cell_far (p := ⟨gb205, _, none⟩) NB216_205.out _).trans (((cell_far (p := ⟨gb205, _, none⟩) NB216_205.out _).trans (hHeld.2.2.1)))))), ((cell_far (p := ⟨gb205, _, none⟩) NB216_205.out _).trans (((cell_far (p := ⟨gb205, _, none⟩) NB216_205.out _).trans (((cell_far (p := ⟨gb205, _, none⟩) NB216_205.out _).trans (hHeld.2.2.2.1)))))), ((cell_far (p := ⟨gb205, _, none⟩) NB204_205.out _).trans (((cell_far (p := ⟨gb205, _, none⟩) NB204_205.out _).trans (((cell_far (p := ⟨gb205, _, none⟩) NB204_205.out _).trans (hHeld.2.2.2.2.1)))))), ((cell_far (p := ⟨gb205, _, none⟩) NB204_205.out _).trans (((cell_far (p := ⟨gb205, _, none⟩) NB204_205.out _).trans (((cell_far (p := ⟨gb205, _, none⟩) NB204_205.out _).trans (hHeld.2.2.2.2.2.1)))))), ((cell_far (p := ⟨gb205, _, none⟩) NB204_205.out _).trans (((cell_far (p := ⟨gb205, _, none⟩) NB204_205.out _).trans (((cell_far (p := ⟨gb205, _, none⟩) NB204_205.out _).trans (hHeld.2.2.2.2.2.2.1)))))), ((cell_far (p := ⟨gb205, _, none⟩) NB204_205.out _).trans (((cell_far (p := ⟨gb205, _, none⟩) NB204_205.out _).trans (((cell_far (p := ⟨gb205, _, none⟩) NB204_205.out _).trans (hHeld.2.2.2.2.2.2.2.1)))))), ((cell_far (p := ⟨gb205, _, none⟩) NB204_205.out _).trans (((cell_far (p := ⟨gb205, _, none⟩) NB204_205.out _).trans (((cell_far (p := ⟨gb205, _, none⟩) NB204_205.out _).trans (hHeld.2.2.2.2.2.2.2.2.1)))))), ((cell_far (p := ⟨gb205, _, none⟩) NB204_205.out _).trans (((cell_far (p := ⟨gb205, _, none⟩) NB204_205.out _).trans (((cell_far (p := ⟨gb205, _, none⟩) NB204_205.out _).trans (hHeld.2.2.2.2.2.2.2.2.2))))))⟩ (fun hHeld => ?_)
      clear hK K
      refine pure_ (i := 9) (N := some 5) (v := ?_) (a' := ?_) #[true, true, true, true, true, true, true, true, true, true] rfl rfl (any_of HT_.out (by kernel_rfl)) (fun _ _ _ h => h) (Or.inl ⟨by rfl, ?_⟩) ?_ ?_
      rotate_left
      ·intro w'
       go_simp
       with_reducible rfl
      rotate_left; (simp only [Act.put, List.setIfInBounds_toArray, List.set_cons_zero, List.set_cons_succ, i64_w, i32_w]; rfl)
      refine done_ (done_of HT_.out (by kernel_rfl)) ?_
      try go_wp2
      refine bodyPost_ret (results_ct rfl _ _ gb205 24 #[.int .i64 t236, .int .i64 t237, .slice Ao108 t238.length co108] (0, 0) _ rfl (by refine blk_put (cs := #[.int .i64 t236, .int .i64 t237, .slice none 0 0]) ?_ 2 _ rfl; refine blk_put (cs := #[.int .i64 t236, .int .i64 0, .slice none 0 0]) ?_ 1 _ rfl; refine blk_put (cs := #[.int .i64 0, .int .i64 0, .slice none 0 0]) ?_ 0 _ rfl; exact BK205.out) Try.underlying24 rfl (by kernel_rfl)) rfl ?_
      exact ⟨_, by first | rfl | (simp [errW_none, errW_some] <;> rfl) | (simp [*, errW_none, errW_some] <;> rfl), by (with_reducible repeat (first | apply Kd.R_alloc | apply Kd.R_drewN | apply Kd.R_drew)); exact Kd.R_mono (rf3 (Kd.R_types HO240.out BK205.out (by decide)) (fun _ hk => hk.2) (.int .i64 t236) (.int .i64 t237) (.slice Ao108 t238.length co108)) (fun _ hk => trivial), by repeat (with_reducible first | exact HB.out | apply pw_below_drewN | apply below_drew1 | refine below_set ?_ (Aside0.out (by assumption)))⟩

end Go.Proofs.Ytcfpbmdndapeaaa.F
