-- Written by a program of this session (xprint.py), out of the translation and of contracts proved by hand.
import Derived.Test.YtcfpbmdndapeaaaF0
import Derived.Test.YtcfpbmdndapeaaaF1
import Derived.Test.YtcfpbmdndapeaaaF3
import Derived.Test.YtcfpbmdndapeaaaF9
import Derived.Test.YtcfpbmdndapeaaaF13
import Derived.Test.YtcfpbmdndapeaaaF17
namespace Go.Proofs.Ytcfpbmdndapeaaa.F
open Go.RowKit Go.Proofs.YtcfpbmdndapeaaaV.PrintWords Go.Proofs.YtcfpbmdndapeaaaV.PrintLast Go.Proofs.YtcfpbmdndapeaaaV.PrintMore
attribute [local go_sem] max2_int min2_int max_two min_two max_three min_three max_four min_four   -- for this text's walks alone
set_option linter.unusedVariables false
set_option linter.unusedSimpArgs false

attribute [local go_sem high] eqA26
/-! ### watchmanlaw08_BoardOrder: function 7 -/
mutual
def watchmanlaw08_BoardOrder.j0 : Nat → Bool → Int → Int → List (S28) → Int → Int → Int → Int → Int → Int → Int → Int → Int → Int → Int → Int → Option (Bool)
  | 0, _, _, _, _, _, _, _, _, _, _, _, _, _, _, _, _ => none
  | k + 1, x21, x415000, x415001, x415002, x416000, x416001, x416002, x416003, x416004, x416005, x417000, x417001, x417002, x417003, x417004, x417005 => if x21 = true then (some true) else ((board_Put.f k x415000 x415001 x415002 x416000 x416001 x416002 x416003 x416004 x416005).bind fun bt418 => ((board_Put.f k bt418.1 bt418.2.1 bt418.2.2.1 x417000 x417001 x417002 x417003 x417004 x417005).bind fun bt425 => ((board_Put.f k x415000 x415001 x415002 x417000 x417001 x417002 x417003 x417004 x417005).bind fun bt431 => ((board_Put.f k bt431.1 bt431.2.1 bt431.2.2.1 x416000 x416001 x416002 x416003 x416004 x416005).bind fun bt438 => (if bt418.2.2.2 = 0 then (watchmanlaw08_BoardOrder.j1 k bt431.2.2.2 bt438.2.2.2 (bt425.2.2.2 != 0) bt425.1 bt425.2.1 bt425.2.2.1 bt438.1 bt438.2.1 bt438.2.2.1) else (watchmanlaw08_BoardOrder.j1 k bt431.2.2.2 bt438.2.2.2 true bt425.1 bt425.2.1 bt425.2.2.1 bt438.1 bt438.2.1 bt438.2.2.1))))))
def watchmanlaw08_BoardOrder.j1 : Nat → Int → Int → Bool → Int → Int → List (S28) → Int → Int → List (S28) → Option (Bool)
  | 0, _, _, _, _, _, _, _, _, _ => none
  | k + 1, x11, x12, x51, x425000, x425001, x425002, x438000, x438001, x438002 => if x51 = true then ((watchmanlaw08_boards.f k).bind fun t444 => (if t444 = true then (if x11 = 0 then (some (x12 != 0)) else (some true)) else (none))) else ((watchmanlaw08_boards.f k).bind fun t445 => (if t445 = true then (if x11 = 0 then (if x12 = 0 then ((watchmanref08_Same.f k x425000 x425001 x425002 x438000 x438001 x438002).bind fun t446 => (some t446)) else (none)) else (none)) else (none)))
end
def watchmanlaw08_BoardOrder.f (k : Nat) (a0_0 : Int) (a0_1 : Int) (l0_2 : List (S28)) (a1_0 : Int) (a1_1 : Int) (a1_2 : Int) (a1_3 : Int) (a1_4 : Int) (a1_5 : Int) (a2_0 : Int) (a2_1 : Int) (a2_2 : Int) (a2_3 : Int) (a2_4 : Int) (a2_5 : Int) : Option (Bool) := (watchmanlaw08_far.f a0_0 a0_1 l0_2).bind fun t417 => (if t417 = true then (watchmanlaw08_BoardOrder.j0 k true a0_0 a0_1 l0_2 a1_0 a1_1 a1_2 a1_3 a1_4 a1_5 a2_0 a2_1 a2_2 a2_3 a2_4 a2_5) else (watchmanlaw08_BoardOrder.j0 k (a1_0 == a2_0 && (a1_1 == a2_1)) a0_0 a0_1 l0_2 a1_0 a1_1 a1_2 a1_3 a1_4 a1_5 a2_0 a2_1 a2_2 a2_3 a2_4 a2_5))
theorem watchmanlaw08_BoardOrder.mono_l : ∀ k, (∀ y0 y1 y2 y3 y4 y5 y6 y7 y8 y9 y10 y11 y12 y13 y14 y15, LeO (watchmanlaw08_BoardOrder.j0 k y0 y1 y2 y3 y4 y5 y6 y7 y8 y9 y10 y11 y12 y13 y14 y15) (watchmanlaw08_BoardOrder.j0 (k + 1) y0 y1 y2 y3 y4 y5 y6 y7 y8 y9 y10 y11 y12 y13 y14 y15)) ∧ (∀ y0 y1 y2 y3 y4 y5 y6 y7 y8, LeO (watchmanlaw08_BoardOrder.j1 k y0 y1 y2 y3 y4 y5 y6 y7 y8) (watchmanlaw08_BoardOrder.j1 (k + 1) y0 y1 y2 y3 y4 y5 y6 y7 y8))
  | 0 => ⟨fun _ _ _ _ _ _ _ _ _ _ _ _ _ _ _ _ r h => by simp [watchmanlaw08_BoardOrder.j0] at h, fun _ _ _ _ _ _ _ _ _ r h => by simp [watchmanlaw08_BoardOrder.j1] at h⟩
  | k + 1 => by
    obtain ⟨ih0, ih1⟩ := watchmanlaw08_BoardOrder.mono_l k
    refine ⟨?_, ?_⟩
    · intro y0 y1 y2 y3 y4 y5 y6 y7 y8 y9 y10 y11 y12 y13 y14 y15
      unfold watchmanlaw08_BoardOrder.j0
      repeat' first
      | (with_reducible exact ih0 _ _ _ _ _ _ _ _ _ _ _ _ _ _ _ _)
      | (with_reducible exact ih1 _ _ _ _ _ _ _ _ _)
      | (with_reducible exact board_Put.mono _ _ _ _ _ _ _ _ _ _)
      | (with_reducible exact watchmanlaw08_boards.mono _)
      | (with_reducible exact watchmanref08_Same.mono _ _ _ _ _ _ _)
      | (with_reducible exact LeO.refl _)
      | (with_reducible exact LeO.none _)
      | (with_reducible refine LeO.ite ?_ ?_)
      | (with_reducible refine LeO.bind ?_ (fun _ => ?_))
      | exact ih0 _ _ _ _ _ _ _ _ _ _ _ _ _ _ _ _
      | exact ih1 _ _ _ _ _ _ _ _ _
      | exact board_Put.mono _ _ _ _ _ _ _ _ _ _
      | exact watchmanlaw08_boards.mono _
      | exact watchmanref08_Same.mono _ _ _ _ _ _ _
      | exact LeO.none _
      | refine LeO.ite ?_ ?_
      | refine LeO.bind ?_ (fun _ => ?_)
    · intro y0 y1 y2 y3 y4 y5 y6 y7 y8
      unfold watchmanlaw08_BoardOrder.j1
      repeat' first
      | (with_reducible exact ih0 _ _ _ _ _ _ _ _ _ _ _ _ _ _ _ _)
      | (with_reducible exact ih1 _ _ _ _ _ _ _ _ _)
      | (with_reducible exact board_Put.mono _ _ _ _ _ _ _ _ _ _)
      | (with_reducible exact watchmanlaw08_boards.mono _)
      | (with_reducible exact watchmanref08_Same.mono _ _ _ _ _ _ _)
      | (with_reducible exact LeO.refl _)
      | (with_reducible exact LeO.none _)
      | (with_reducible refine LeO.ite ?_ ?_)
      | (with_reducible refine LeO.bind ?_ (fun _ => ?_))
      | exact ih0 _ _ _ _ _ _ _ _ _ _ _ _ _ _ _ _
      | exact ih1 _ _ _ _ _ _ _ _ _
      | exact board_Put.mono _ _ _ _ _ _ _ _ _ _
      | exact watchmanlaw08_boards.mono _
      | exact watchmanref08_Same.mono _ _ _ _ _ _ _
      | exact LeO.none _
      | refine LeO.ite ?_ ?_
      | refine LeO.bind ?_ (fun _ => ?_)
theorem watchmanlaw08_BoardOrder.mono : ∀ a0 a1 a2 a3 a4 a5 a6 a7 a8 a9 a10 a11 a12 a13 a14 k, LeO (watchmanlaw08_BoardOrder.f k a0 a1 a2 a3 a4 a5 a6 a7 a8 a9 a10 a11 a12 a13 a14) (watchmanlaw08_BoardOrder.f (k + 1) a0 a1 a2 a3 a4 a5 a6 a7 a8 a9 a10 a11 a12 a13 a14) := by
  intro a0 a1 a2 a3 a4 a5 a6 a7 a8 a9 a10 a11 a12 a13 a14 k
  obtain ⟨ih0, ih1⟩ := watchmanlaw08_BoardOrder.mono_l k
  unfold watchmanlaw08_BoardOrder.f
  repeat' first
      | (with_reducible exact ih0 _ _ _ _ _ _ _ _ _ _ _ _ _ _ _ _)
      | (with_reducible exact ih1 _ _ _ _ _ _ _ _ _)
      | (with_reducible exact board_Put.mono _ _ _ _ _ _ _ _ _ _)
      | (with_reducible exact watchmanlaw08_boards.mono _)
      | (with_reducible exact watchmanref08_Same.mono _ _ _ _ _ _ _)
      | (with_reducible exact LeO.refl _)
      | (with_reducible exact LeO.none _)
      | (with_reducible refine LeO.ite ?_ ?_)
      | (with_reducible refine LeO.bind ?_ (fun _ => ?_))
      | exact ih0 _ _ _ _ _ _ _ _ _ _ _ _ _ _ _ _
      | exact ih1 _ _ _ _ _ _ _ _ _
      | exact board_Put.mono _ _ _ _ _ _ _ _ _ _
      | exact watchmanlaw08_boards.mono _
      | exact watchmanref08_Same.mono _ _ _ _ _ _ _
      | exact LeO.none _
      | refine LeO.ite ?_ ?_
      | refine LeO.bind ?_ (fun _ => ?_)
set_option maxHeartbeats 8000000 in
set_option maxRecDepth 100000 in
theorem watchmanlaw08_BoardOrder.calls (k : Nat) (a0_0 : Int) (a0_1 : Int) (A0_2 : Option Addr) (c0_2 : Nat) (l0_2 : List (S28)) (a1_0 : Int) (a1_1 : Int) (a1_2 : Int) (a1_3 : Int) (a1_4 : Int) (a1_5 : Int) (a2_0 : Int) (a2_1 : Int) (a2_2 : Int) (a2_3 : Int) (a2_4 : Int) (a2_5 : Int) (r : Bool) (w : World) (hr0_2 : Kd.C k28 w A0_2 l0_2.length l0_2) (hc0_2 : l0_2.length ≤ c0_2) (h : watchmanlaw08_BoardOrder.f k a0_0 a0_1 l0_2 a1_0 a1_1 a1_2 a1_3 a1_4 a1_5 a2_0 a2_1 a2_2 a2_3 a2_4 a2_5 = some r) :
    Calls Try.prog 7 #[.agg #[.int .i64 a0_0, .int .i64 a0_1, .slice A0_2 l0_2.length c0_2], .agg #[.int .i64 a1_0, .int .i64 a1_1, .int .i64 a1_2, .int .i64 a1_3, .int .i64 a1_4, .int .i64 a1_5], .agg #[.int .i64 a2_0, .int .i64 a2_1, .int .i64 a2_2, .int .i64 a2_3, .int .i64 a2_4, .int .i64 a2_5]] w fun e w' => e = .returned (.bool r) ∧ Below w.heap.size w w' := by
  have hu24 := Try.underlying24
  have hu28 := Try.underlying28
  have hu26 := Try.underlying26
  have HR0_2 := Aside0.mk hr0_2
  have HC0_2 := Aside0.mk hc0_2
  clear hr0_2 hc0_2
  have HB := Aside0.mk (Below.refl w.heap.size w)
  have H : ((watchmanlaw08_far.f a0_0 a0_1 l0_2).bind fun t417 => (if t417 = true then (watchmanlaw08_BoardOrder.j0 k true a0_0 a0_1 l0_2 a1_0 a1_1 a1_2 a1_3 a1_4 a1_5 a2_0 a2_1 a2_2 a2_3 a2_4 a2_5) else (watchmanlaw08_BoardOrder.j0 k (a1_0 == a2_0 && (a1_1 == a2_1)) a0_0 a0_1 l0_2 a1_0 a1_1 a1_2 a1_3 a1_4 a1_5 a2_0 a2_1 a2_2 a2_3 a2_4 a2_5))) = some r := h
  clear h
  have HC4 := Aside0.mk H
  clear H
  go_enter Try.func7, Try.ntmps7
  go_upto_region 1 with (first | ((with_reducible refine gate_dst (N := 3) rfl ?_); refine box_event ?hg (N := 3) ?hd (cs := #[.int .i64 a0_0, .int .i64 a0_1, .slice A0_2 l0_2.length c0_2]) (t := 24) ?hr ?_; (case hd => rfl); (case hg => rfl); (case hr => first | (go_simp; done) | (go_simp; rfl)); intro gb414 hg w5 hbox hb; have n0_ := Aside0.mk (below_step HB.out hb); have n1_ := Aside0.mk (hbox); have n2_ := Aside0.mk ((by rw [hg]; exact (below_size HB.out) : w.heap.size ≤ gb414)); have n3_ := Aside0.mk ((by rw [hg]; exact (below_size HB.out) : w.heap.size ≤ gb414)); clear HB; have HB := n0_; have BK414 := n1_; have GW414 := n2_; have GE414 := n3_; clear n0_ n1_ n2_ n3_; clear hb hbox hg) | ((with_reducible refine gate_dst (N := 4) rfl ?_); refine box_event ?hg (N := 4) ?hd (cs := #[.int .i64 a1_0, .int .i64 a1_1, .int .i64 a1_2, .int .i64 a1_3, .int .i64 a1_4, .int .i64 a1_5]) (t := 28) ?hr ?_; (case hd => rfl); (case hg => rfl); (case hr => first | (go_simp; done) | (go_simp; rfl)); intro gb415 hg w6 hbox hb; have n0_ := Aside0.mk (blk_below BK414.out hb); have n1_ := Aside0.mk (below_step (by repeat (with_reducible first | exact HB.out | apply pw_below_drewN | apply below_drew1 | refine below_set ?_ GE414.out)) hb); have n2_ := Aside0.mk (hbox); have n3_ := Aside0.mk ((by rw [hg]; exact (below_size (by repeat (with_reducible first | exact HB.out | apply pw_below_drewN | apply below_drew1 | refine below_set ?_ GE414.out))) : w.heap.size ≤ gb415)); have n4_ := Aside0.mk ((by rw [hg]; exact (below_size (by repeat (with_reducible first | exact HB.out | apply pw_below_drewN | apply below_drew1 | refine below_set ?_ GE414.out))) : w.heap.size ≤ gb415)); have n5_ := Aside0.mk ((by rw [hg]; exact Nat.ne_of_lt (blk_lt BK414.out) : gb414 ≠ gb415)); have n6_ := Aside0.mk ((by rw [hg]; exact Nat.ne_of_gt (blk_lt BK414.out) : gb415 ≠ gb414)); clear BK414; clear HB; have BK414 := n0_; have HB := n1_; have BK415 := n2_; have GW415 := n3_; have GE415 := n4_; have NB414_415 := n5_; have NB415_414 := n6_; clear n0_ n1_ n2_ n3_ n4_ n5_ n6_; clear hb hbox hg) | ((with_reducible refine gate_dst (N := 5) rfl ?_); refine box_event ?hg (N := 5) ?hd (cs := #[.int .i64 a2_0, .int .i64 a2_1, .int .i64 a2_2, .int .i64 a2_3, .int .i64 a2_4, .int .i64 a2_5]) (t := 28) ?hr ?_; (case hd => rfl); (case hg => rfl); (case hr => first | (go_simp; done) | (go_simp; rfl)); intro gb416 hg w7 hbox hb; have n0_ := Aside0.mk (blk_below BK414.out hb); have n1_ := Aside0.mk (blk_below BK415.out hb); have n2_ := Aside0.mk (below_step (by repeat (with_reducible first | exact HB.out | apply pw_below_drewN | apply below_drew1 | refine below_set ?_ GE414.out | refine below_set ?_ GE415.out)) hb); have n3_ := Aside0.mk (hbox); have n4_ := Aside0.mk ((by rw [hg]; exact (below_size (by repeat (with_reducible first | exact HB.out | apply pw_below_drewN | apply below_drew1 | refine below_set ?_ GE414.out | refine below_set ?_ GE415.out))) : w.heap.size ≤ gb416)); have n5_ := Aside0.mk ((by rw [hg]; exact (below_size (by repeat (with_reducible first | exact HB.out | apply pw_below_drewN | apply below_drew1 | refine below_set ?_ GE414.out | refine below_set ?_ GE415.out))) : w.heap.size ≤ gb416)); have n6_ := Aside0.mk ((by rw [hg]; exact Nat.ne_of_lt (blk_lt BK414.out) : gb414 ≠ gb416)); have n7_ := Aside0.mk ((by rw [hg]; exact Nat.ne_of_gt (blk_lt BK414.out) : gb416 ≠ gb414)); have n8_ := Aside0.mk ((by rw [hg]; exact Nat.ne_of_lt (blk_lt BK415.out) : gb415 ≠ gb416)); have n9_ := Aside0.mk ((by rw [hg]; exact Nat.ne_of_gt (blk_lt BK415.out) : gb416 ≠ gb415)); clear BK414; clear BK415; clear HB; have BK414 := n0_; have BK415 := n1_; have HB := n2_; have BK416 := n3_; have GW416 := n4_; have GE416 := n5_; have NB414_416 := n6_; have NB416_414 := n7_; have NB415_416 := n8_; have NB416_415 := n9_; clear n0_ n1_ n2_ n3_ n4_ n5_ n6_ n7_ n8_ n9_; clear hb hbox hg))
  (try simp only [Act.put, List.setIfInBounds_toArray, List.set_cons_zero, List.set_cons_succ])
  go_cut [21] (fun v21 wc => ∃ (kq : Nat) (x21_3 : Bool), v21 = .bool x21_3 ∧ Aside0 (watchmanlaw08_BoardOrder.j0 kq x21_3 a0_0 a0_1 l0_2 a1_0 a1_1 a1_2 a1_3 a1_4 a1_5 a2_0 a2_1 a2_2 a2_3 a2_4 a2_5 = some r) ∧ Aside0 (kq ≤ k) ∧ Aside0 (wc.heap[gb414]? = some (.cells #[.int .i64 a0_0, .int .i64 a0_1, (.slice A0_2 l0_2.length c0_2)] 24 (0, 0))) ∧ Aside0 (wc.heap[gb415]? = some (.cells #[.int .i64 a1_0, .int .i64 a1_1, .int .i64 a1_2, .int .i64 a1_3, .int .i64 a1_4, .int .i64 a1_5] 28 (0, 0))) ∧ Aside0 (wc.heap[gb416]? = some (.cells #[.int .i64 a2_0, .int .i64 a2_1, .int .i64 a2_2, .int .i64 a2_3, .int .i64 a2_4, .int .i64 a2_5] 28 (0, 0))) ∧ Aside0 (Below w.heap.size w wc))
  case first =>
    have H := HC4.out
    clear HC4
    replace H := Option.bind_eq_some_iff.mp H
    obtain ⟨t417, A80, H⟩ := H
    replace H : (if t417 = true then (watchmanlaw08_BoardOrder.j0 k true a0_0 a0_1 l0_2 a1_0 a1_1 a1_2 a1_3 a1_4 a1_5 a2_0 a2_1 a2_2 a2_3 a2_4 a2_5) else (watchmanlaw08_BoardOrder.j0 k (a1_0 == a2_0 && (a1_1 == a2_1)) a0_0 a0_1 l0_2 a1_0 a1_1 a1_2 a1_3 a1_4 a1_5 a2_0 a2_1 a2_2 a2_3 a2_4 a2_5)) = some r := H
    have A8 := Aside0.mk A80
    clear A80
    by_cases c9 : t417 = true
    · subst c9
      have H1 : (watchmanlaw08_BoardOrder.j0 k true a0_0 a0_1 l0_2 a1_0 a1_1 a1_2 a1_3 a1_4 a1_5 a2_0 a2_1 a2_2 a2_3 a2_4 a2_5) = some r := by rw [if_pos rfl] at H; exact H
      clear H
      have H := H1
      clear H1
      have H' := Aside0.mk H
      clear H
      have hnb10 := NB414_415.out
      have hnc10 := NB415_414.out
      have hnb11 := NB414_416.out
      have hnc11 := NB416_414.out
      have hcz12_0 : w7.cell? ⟨gb414, 0, none⟩ = some (.int .i64 a0_0) := (blk_cell BK414.out 0).trans rfl
      have hcz12_1 : w7.cell? ⟨gb414, 1, none⟩ = some (.int .i64 a0_1) := (blk_cell BK414.out 1).trans rfl
      have hcz12_2 : w7.cell? ⟨gb414, 2, none⟩ = some (.slice A0_2 l0_2.length c0_2) := (blk_cell BK414.out 2).trans rfl
      have hfz12_0 := blk_frozen BK414.out 0
      have hfz12_1 := blk_frozen BK414.out 1
      have hfz12_2 := blk_frozen BK414.out 2
      go_wp2_with (first | ((with_reducible refine gate_callee (f := 13) rfl ?_); refine goesL_ (some 14) rfl rfl Try.func13 (by kernel_rfl) rfl #[.agg #[.int .i64 a0_0, .int .i64 a0_1, .slice A0_2 l0_2.length c0_2]] rfl (by (try simp only [List.map_toArray, List.map_cons, List.map_nil]); first | done | rfl | (simp only [List.length_drop, List.length_take]; rfl)) ?_; (with_reducible refine (watchmanlaw08_far.calls a0_0 a0_1 _ _ l0_2 true _ ?side1 ?side2 A8.out).mono ?_); (case side1 => exact (Kd.C_below HR0_2.out HB.out)); (case side2 => exact HC0_2.out); rintro e w13 ⟨rfl, hb⟩; refine ⟨_, rfl, ?_⟩; have n0_ := Aside0.mk (blk_below BK414.out hb); have n1_ := Aside0.mk (blk_below BK415.out hb); have n2_ := Aside0.mk (blk_below BK416.out hb); have n3_ := Aside0.mk (below_step (by repeat (with_reducible first | exact HB.out | apply pw_below_drewN | apply below_drew1 | refine below_set ?_ GE414.out | refine below_set ?_ GE415.out | refine below_set ?_ GE416.out)) hb); clear BK414; clear BK415; clear BK416; clear HB; have BK414 := n0_; have BK415 := n1_; have BK416 := n2_; have HB := n3_; clear n0_ n1_ n2_ n3_; (try clear hb); (try clear hb2); (try clear hk); (try clear hi)))
      go_meet
      case rel => exact ⟨_, (true), (by first | rfl | (simp; done) | (simp [*]; done)), H', ⟨by first | omega | exact Nat.le_refl _⟩, ⟨by (with_reducible repeat (first | refine blk_drewN ?_ _ | refine blk_drew ?_ | refine blk_alloc ?_ _)); exact BK414.out⟩, ⟨by (with_reducible repeat (first | refine blk_drewN ?_ _ | refine blk_drew ?_ | refine blk_alloc ?_ _)); exact BK415.out⟩, ⟨by (with_reducible repeat (first | refine blk_drewN ?_ _ | refine blk_drew ?_ | refine blk_alloc ?_ _)); exact BK416.out⟩, ⟨by repeat (with_reducible first | exact HB.out | apply pw_below_drewN | apply below_drew1 | refine below_set ?_ GE414.out | refine below_set ?_ GE415.out | refine below_set ?_ GE416.out)⟩⟩
    · replace c9 := Bool.eq_false_iff.mpr c9
      subst c9
      have H1 : (watchmanlaw08_BoardOrder.j0 k (a1_0 == a2_0 && (a1_1 == a2_1)) a0_0 a0_1 l0_2 a1_0 a1_1 a1_2 a1_3 a1_4 a1_5 a2_0 a2_1 a2_2 a2_3 a2_4 a2_5) = some r := by rw [if_neg (show ¬ (false = true) by decide)] at H; exact H
      clear H
      have H := H1
      clear H1
      have H' := Aside0.mk H
      clear H
      have hnb14 := NB414_415.out
      have hnc14 := NB415_414.out
      have hnb15 := NB414_416.out
      have hnc15 := NB416_414.out
      have hcz16_0 : w7.cell? ⟨gb414, 0, none⟩ = some (.int .i64 a0_0) := (blk_cell BK414.out 0).trans rfl
      have hcz16_1 : w7.cell? ⟨gb414, 1, none⟩ = some (.int .i64 a0_1) := (blk_cell BK414.out 1).trans rfl
      have hcz16_2 : w7.cell? ⟨gb414, 2, none⟩ = some (.slice A0_2 l0_2.length c0_2) := (blk_cell BK414.out 2).trans rfl
      have hfz16_0 := blk_frozen BK414.out 0
      have hfz16_1 := blk_frozen BK414.out 1
      have hfz16_2 := blk_frozen BK414.out 2
      go_wp2_with (first | ((with_reducible refine gate_callee (f := 13) rfl ?_); refine goesL_ (some 14) rfl rfl Try.func13 (by kernel_rfl) rfl #[.agg #[.int .i64 a0_0, .int .i64 a0_1, .slice A0_2 l0_2.length c0_2]] rfl (by (try simp only [List.map_toArray, List.map_cons, List.map_nil]); first | done | rfl | (simp only [List.length_drop, List.length_take]; rfl)) ?_; (with_reducible refine (watchmanlaw08_far.calls a0_0 a0_1 _ _ l0_2 false _ ?side1 ?side2 A8.out).mono ?_); (case side1 => exact (Kd.C_below HR0_2.out HB.out)); (case side2 => exact HC0_2.out); rintro e w17 ⟨rfl, hb⟩; refine ⟨_, rfl, ?_⟩; have n0_ := Aside0.mk (blk_below BK414.out hb); have n1_ := Aside0.mk (blk_below BK415.out hb); have n2_ := Aside0.mk (blk_below BK416.out hb); have n3_ := Aside0.mk (below_step (by repeat (with_reducible first | exact HB.out | apply pw_below_drewN | apply below_drew1 | refine below_set ?_ GE414.out | refine below_set ?_ GE415.out | refine below_set ?_ GE416.out)) hb); clear BK414; clear BK415; clear BK416; clear HB; have BK414 := n0_; have BK415 := n1_; have BK416 := n2_; have HB := n3_; clear n0_ n1_ n2_ n3_; (try clear hb); (try clear hb2); (try clear hk); (try clear hi); have hnb18 := NB415_416.out; have hnc18 := NB416_415.out; have hcz19_0 : w17.cell? ⟨gb415, 0, none⟩ = some (.int .i64 a1_0) := (blk_cell BK415.out 0).trans rfl; have hcz19_1 : w17.cell? ⟨gb415, 1, none⟩ = some (.int .i64 a1_1) := (blk_cell BK415.out 1).trans rfl; have hcz19_2 : w17.cell? ⟨gb415, 2, none⟩ = some (.int .i64 a1_2) := (blk_cell BK415.out 2).trans rfl; have hcz19_3 : w17.cell? ⟨gb415, 3, none⟩ = some (.int .i64 a1_3) := (blk_cell BK415.out 3).trans rfl; have hcz19_4 : w17.cell? ⟨gb415, 4, none⟩ = some (.int .i64 a1_4) := (blk_cell BK415.out 4).trans rfl; have hcz19_5 : w17.cell? ⟨gb415, 5, none⟩ = some (.int .i64 a1_5) := (blk_cell BK415.out 5).trans rfl; have hfz19_0 := blk_frozen BK415.out 0; have hfz19_1 := blk_frozen BK415.out 1; have hfz19_2 := blk_frozen BK415.out 2; have hfz19_3 := blk_frozen BK415.out 3; have hfz19_4 := blk_frozen BK415.out 4; have hfz19_5 := blk_frozen BK415.out 5; have hcz20_0 : w17.cell? ⟨gb416, 0, none⟩ = some (.int .i64 a2_0) := (blk_cell BK416.out 0).trans rfl; have hcz20_1 : w17.cell? ⟨gb416, 1, none⟩ = some (.int .i64 a2_1) := (blk_cell BK416.out 1).trans rfl; have hcz20_2 : w17.cell? ⟨gb416, 2, none⟩ = some (.int .i64 a2_2) := (blk_cell BK416.out 2).trans rfl; have hcz20_3 : w17.cell? ⟨gb416, 3, none⟩ = some (.int .i64 a2_3) := (blk_cell BK416.out 3).trans rfl; have hcz20_4 : w17.cell? ⟨gb416, 4, none⟩ = some (.int .i64 a2_4) := (blk_cell BK416.out 4).trans rfl; have hcz20_5 : w17.cell? ⟨gb416, 5, none⟩ = some (.int .i64 a2_5) := (blk_cell BK416.out 5).trans rfl; have hfz20_0 := blk_frozen BK416.out 0; have hfz20_1 := blk_frozen BK416.out 1; have hfz20_2 := blk_frozen BK416.out 2; have hfz20_3 := blk_frozen BK416.out 3; have hfz20_4 := blk_frozen BK416.out 4; have hfz20_5 := blk_frozen BK416.out 5))
      go_meet
      case rel => exact ⟨_, ((a1_0 == a2_0 && (a1_1 == a2_1))), (by first | rfl | (simp; done) | (simp [*]; done)), H', ⟨by first | omega | exact Nat.le_refl _⟩, ⟨by (with_reducible repeat (first | refine blk_drewN ?_ _ | refine blk_drew ?_ | refine blk_alloc ?_ _)); exact BK414.out⟩, ⟨by (with_reducible repeat (first | refine blk_drewN ?_ _ | refine blk_drew ?_ | refine blk_alloc ?_ _)); exact BK415.out⟩, ⟨by (with_reducible repeat (first | refine blk_drewN ?_ _ | refine blk_drew ?_ | refine blk_alloc ?_ _)); exact BK416.out⟩, ⟨by repeat (with_reducible first | exact HB.out | apply pw_below_drewN | apply below_drew1 | refine below_set ?_ GE414.out | refine below_set ?_ GE415.out | refine below_set ?_ GE416.out)⟩⟩
  case rest =>
    clear HC4
    try clear c1
    try clear p2
    try clear c7
    try clear c9
    try clear c10
    try clear c11
    try clear c13
    try clear c14
    try clear c15
    try clear c18
    try clear hcz12_0
    try clear hcz12_1
    try clear hcz12_2
    try clear hcz16_0
    try clear hcz16_1
    try clear hcz16_2
    try clear hcz19_0
    try clear hcz19_1
    try clear hcz19_2
    try clear hcz19_3
    try clear hcz19_4
    try clear hcz19_5
    try clear hcz20_0
    try clear hcz20_1
    try clear hcz20_2
    try clear hcz20_3
    try clear hcz20_4
    try clear hcz20_5
    try clear hfz12_0
    try clear hfz12_1
    try clear hfz12_2
    try clear hfz16_0
    try clear hfz16_1
    try clear hfz16_2
    try clear hfz19_0
    try clear hfz19_1
    try clear hfz19_2
    try clear hfz19_3
    try clear hfz19_4
    try clear hfz19_5
    try clear hfz20_0
    try clear hfz20_1
    try clear hfz20_2
    try clear hfz20_3
    try clear hfz20_4
    try clear hfz20_5
    obtain ⟨kq, x21_3, rfl, HA, HJ3, BK414, BK415, BK416, HB⟩ := hcut
    cases kq with
    | zero => exact absurd HA.out (by simp [watchmanlaw08_BoardOrder.j0])
    | succ kj3 =>
      have H := HA.out
      clear HA
      simp only [watchmanlaw08_BoardOrder.j0] at H
      by_cases c21 : x21_3 = true
      · subst c21
        have H1 : (some true) = some r := by rw [if_pos rfl] at H; exact H
        clear H
        have H := H1
        clear H1
        obtain rfl := Option.some.inj H
        go_wp2
        go_ret
        exact ⟨by first | rfl | (simp [errW_none, errW_some] <;> rfl) | (simp [*, errW_none, errW_some] <;> rfl), by repeat (with_reducible first | exact HB.out | apply pw_below_drewN | apply below_drew1 | refine below_set ?_ GE414.out | refine below_set ?_ GE415.out | refine below_set ?_ GE416.out)⟩
      · replace c21 := Bool.eq_false_iff.mpr c21
        subst c21
        have H1 : ((board_Put.f kj3 a0_0 a0_1 l0_2 a1_0 a1_1 a1_2 a1_3 a1_4 a1_5).bind fun bt418 => ((board_Put.f kj3 bt418.1 bt418.2.1 bt418.2.2.1 a2_0 a2_1 a2_2 a2_3 a2_4 a2_5).bind fun bt425 => ((board_Put.f kj3 a0_0 a0_1 l0_2 a2_0 a2_1 a2_2 a2_3 a2_4 a2_5).bind fun bt431 => ((board_Put.f kj3 bt431.1 bt431.2.1 bt431.2.2.1 a1_0 a1_1 a1_2 a1_3 a1_4 a1_5).bind fun bt438 => (if bt418.2.2.2 = 0 then (watchmanlaw08_BoardOrder.j1 kj3 bt431.2.2.2 bt438.2.2.2 (bt425.2.2.2 != 0) bt425.1 bt425.2.1 bt425.2.2.1 bt438.1 bt438.2.1 bt438.2.2.1) else (watchmanlaw08_BoardOrder.j1 kj3 bt431.2.2.2 bt438.2.2.2 true bt425.1 bt425.2.1 bt425.2.2.1 bt438.1 bt438.2.1 bt438.2.2.1)))))) = some r := by rw [if_neg (show ¬ (false = true) by decide)] at H; exact H
        clear H
        have H := H1
        clear H1
        replace H := Option.bind_eq_some_iff.mp H
        obtain ⟨⟨t418, t419, t420, t423⟩, A220, H⟩ := H
        replace H : ((board_Put.f kj3 t418 t419 t420 a2_0 a2_1 a2_2 a2_3 a2_4 a2_5).bind fun bt425 => ((board_Put.f kj3 a0_0 a0_1 l0_2 a2_0 a2_1 a2_2 a2_3 a2_4 a2_5).bind fun bt431 => ((board_Put.f kj3 bt431.1 bt431.2.1 bt431.2.2.1 a1_0 a1_1 a1_2 a1_3 a1_4 a1_5).bind fun bt438 => (if t423 = 0 then (watchmanlaw08_BoardOrder.j1 kj3 bt431.2.2.2 bt438.2.2.2 (bt425.2.2.2 != 0) bt425.1 bt425.2.1 bt425.2.2.1 bt438.1 bt438.2.1 bt438.2.2.1) else (watchmanlaw08_BoardOrder.j1 kj3 bt431.2.2.2 bt438.2.2.2 true bt425.1 bt425.2.1 bt425.2.2.1 bt438.1 bt438.2.1 bt438.2.2.1))))) = some r := H
        have A22 := Aside0.mk A220
        clear A220
        replace H := Option.bind_eq_some_iff.mp H
        obtain ⟨⟨t425, t426, t427, t430⟩, A230, H⟩ := H
        replace H : ((board_Put.f kj3 a0_0 a0_1 l0_2 a2_0 a2_1 a2_2 a2_3 a2_4 a2_5).bind fun bt431 => ((board_Put.f kj3 bt431.1 bt431.2.1 bt431.2.2.1 a1_0 a1_1 a1_2 a1_3 a1_4 a1_5).bind fun bt438 => (if t423 = 0 then (watchmanlaw08_BoardOrder.j1 kj3 bt431.2.2.2 bt438.2.2.2 (t430 != 0) t425 t426 t427 bt438.1 bt438.2.1 bt438.2.2.1) else (watchmanlaw08_BoardOrder.j1 kj3 bt431.2.2.2 bt438.2.2.2 true t425 t426 t427 bt438.1 bt438.2.1 bt438.2.2.1)))) = some r := H
        have A23 := Aside0.mk A230
        clear A230
        replace H := Option.bind_eq_some_iff.mp H
        obtain ⟨⟨t431, t432, t433, t436⟩, A240, H⟩ := H
        replace H : ((board_Put.f kj3 t431 t432 t433 a1_0 a1_1 a1_2 a1_3 a1_4 a1_5).bind fun bt438 => (if t423 = 0 then (watchmanlaw08_BoardOrder.j1 kj3 t436 bt438.2.2.2 (t430 != 0) t425 t426 t427 bt438.1 bt438.2.1 bt438.2.2.1) else (watchmanlaw08_BoardOrder.j1 kj3 t436 bt438.2.2.2 true t425 t426 t427 bt438.1 bt438.2.1 bt438.2.2.1))) = some r := H
        have A24 := Aside0.mk A240
        clear A240
        replace H := Option.bind_eq_some_iff.mp H
        obtain ⟨⟨t438, t439, t440, t443⟩, A250, H⟩ := H
        replace H : (if t423 = 0 then (watchmanlaw08_BoardOrder.j1 kj3 t436 t443 (t430 != 0) t425 t426 t427 t438 t439 t440) else (watchmanlaw08_BoardOrder.j1 kj3 t436 t443 true t425 t426 t427 t438 t439 t440)) = some r := H
        have A25 := Aside0.mk A250
        clear A250
        have HC26 := Aside0.mk H
        clear H
        have hnb27 := NB414_415.out
        have hnc27 := NB415_414.out
        have hnb28 := NB414_416.out
        have hnc28 := NB416_414.out
        have hcz29_0 : wc.cell? ⟨gb414, 0, none⟩ = some (.int .i64 a0_0) := (blk_cell BK414.out 0).trans rfl
        have hcz29_1 : wc.cell? ⟨gb414, 1, none⟩ = some (.int .i64 a0_1) := (blk_cell BK414.out 1).trans rfl
        have hcz29_2 : wc.cell? ⟨gb414, 2, none⟩ = some (.slice A0_2 l0_2.length c0_2) := (blk_cell BK414.out 2).trans rfl
        have hfz29_0 := blk_frozen BK414.out 0
        have hfz29_1 := blk_frozen BK414.out 1
        have hfz29_2 := blk_frozen BK414.out 2
        have hnb30 := NB415_416.out
        have hnc30 := NB416_415.out
        have hcz31_0 : wc.cell? ⟨gb415, 0, none⟩ = some (.int .i64 a1_0) := (blk_cell BK415.out 0).trans rfl
        have hcz31_1 : wc.cell? ⟨gb415, 1, none⟩ = some (.int .i64 a1_1) := (blk_cell BK415.out 1).trans rfl
        have hcz31_2 : wc.cell? ⟨gb415, 2, none⟩ = some (.int .i64 a1_2) := (blk_cell BK415.out 2).trans rfl
        have hcz31_3 : wc.cell? ⟨gb415, 3, none⟩ = some (.int .i64 a1_3) := (blk_cell BK415.out 3).trans rfl
        have hcz31_4 : wc.cell? ⟨gb415, 4, none⟩ = some (.int .i64 a1_4) := (blk_cell BK415.out 4).trans rfl
        have hcz31_5 : wc.cell? ⟨gb415, 5, none⟩ = some (.int .i64 a1_5) := (blk_cell BK415.out 5).trans rfl
        have hfz31_0 := blk_frozen BK415.out 0
        have hfz31_1 := blk_frozen BK415.out 1
        have hfz31_2 := blk_frozen BK415.out 2
        have hfz31_3 := blk_frozen BK415.out 3
        have hfz31_4 := blk_frozen BK415.out 4
        have hfz31_5 := blk_frozen BK415.out 5
        go_upto_region 7 with (first | ((with_reducible refine gate_callee (f := 15) rfl ?_); refine goesL_ (some 25) rfl rfl Try.func15 (by kernel_rfl) rfl #[.agg #[.int .i64 a0_0, .int .i64 a0_1, .slice A0_2 l0_2.length c0_2], .agg #[.int .i64 a1_0, .int .i64 a1_1, .int .i64 a1_2, .int .i64 a1_3, .int .i64 a1_4, .int .i64 a1_5]] rfl (by (try simp only [List.map_toArray, List.map_cons, List.map_nil]); first | done | rfl | (simp only [List.length_drop, List.length_take]; rfl)) ?_; (with_reducible refine (board_Put.calls kj3 a0_0 a0_1 _ _ l0_2 a1_0 a1_1 a1_2 a1_3 a1_4 a1_5 t418 t419 t420 t423 _ ?side1 ?side2 A22.out).mono ?_); (case side1 => exact (Kd.C_below HR0_2.out HB.out)); (case side2 => exact HC0_2.out); (try clear A22); rintro e w32 ⟨v421, rfl, ho0, hb⟩; refine ⟨_, rfl, ?_⟩; have n0_ := Aside0.mk (Kd.R_lower (Kd.R_newB (Kd.R_newB ho0 (g := gb415) (o := .cells #[.int .i64 a1_0, .int .i64 a1_1, .int .i64 a1_2, .int .i64 a1_3, .int .i64 a1_4, .int .i64 a1_5] 28 (0, 0)) BK415.out) (g := gb416) (o := .cells #[.int .i64 a2_0, .int .i64 a2_1, .int .i64 a2_2, .int .i64 a2_3, .int .i64 a2_4, .int .i64 a2_5] 28 (0, 0)) BK416.out) (below_size (by repeat (with_reducible first | exact HB.out | apply pw_below_drewN | apply below_drew1 | refine below_set ?_ GE414.out | refine below_set ?_ GE415.out | refine below_set ?_ GE416.out)))); have n1_ := Aside0.mk (blk_below BK414.out hb); have n2_ := Aside0.mk (blk_below BK415.out hb); have n3_ := Aside0.mk (blk_below BK416.out hb); have n4_ := Aside0.mk (below_step (by repeat (with_reducible first | exact HB.out | apply pw_below_drewN | apply below_drew1 | refine below_set ?_ GE414.out | refine below_set ?_ GE415.out | refine below_set ?_ GE416.out)) hb); clear BK414; clear BK415; clear BK416; clear HB; have HO422 := n0_; have BK414 := n1_; have BK415 := n2_; have BK416 := n3_; have HB := n4_; clear n0_ n1_ n2_ n3_ n4_; (try clear hb); (try clear hb2); (try clear hk); (try clear hi); (try clear ho0)) | ((with_reducible refine gate_dst (N := 7) rfl ?_); refine box_event ?hg (N := 7) ?hd (cs := #[.int .i64 0, .int .i64 0, .slice none 0 0]) (t := 24) ?hr ?_; (case hd => rfl); (case hg => rfl); (case hr => first | (go_simp; done) | (go_simp; rfl)); intro gb424 hg w33 hbox hb; have n0_ := Aside0.mk (Kd.R_below (HO422.out) hb); have n1_ := Aside0.mk (blk_below BK414.out hb); have n2_ := Aside0.mk (blk_below BK415.out hb); have n3_ := Aside0.mk (blk_below BK416.out hb); have n4_ := Aside0.mk (below_step (by repeat (with_reducible first | exact HB.out | apply pw_below_drewN | apply below_drew1 | refine below_set ?_ GE414.out | refine below_set ?_ GE415.out | refine below_set ?_ GE416.out)) hb); have n5_ := Aside0.mk (hbox); have n6_ := Aside0.mk ((by rw [hg]; exact (below_size (by repeat (with_reducible first | exact HB.out | apply pw_below_drewN | apply below_drew1 | refine below_set ?_ GE414.out | refine below_set ?_ GE415.out | refine below_set ?_ GE416.out))) : w.heap.size ≤ gb424)); have n7_ := Aside0.mk ((by rw [hg]; exact (below_size (by repeat (with_reducible first | exact HB.out | apply pw_below_drewN | apply below_drew1 | refine below_set ?_ GE414.out | refine below_set ?_ GE415.out | refine below_set ?_ GE416.out))) : w.heap.size ≤ gb424)); have n8_ := Aside0.mk ((by rw [hg]; exact Nat.ne_of_lt (blk_lt BK414.out) : gb414 ≠ gb424)); have n9_ := Aside0.mk ((by rw [hg]; exact Nat.ne_of_gt (blk_lt BK414.out) : gb424 ≠ gb414)); have n10_ := Aside0.mk ((by rw [hg]; exact Nat.ne_of_lt (blk_lt BK415.out) : gb415 ≠ gb424)); have n11_ := Aside0.mk ((by rw [hg]; exact Nat.ne_of_gt (blk_lt BK415.out) : gb424 ≠ gb415)); have n12_ := Aside0.mk ((by rw [hg]; exact Nat.ne_of_lt (blk_lt BK416.out) : gb416 ≠ gb424)); have n13_ := Aside0.mk ((by rw [hg]; exact Nat.ne_of_gt (blk_lt BK416.out) : gb424 ≠ gb416)); clear HO422; clear BK414; clear BK415; clear BK416; clear HB; have HO422 := n0_; have BK414 := n1_; have BK415 := n2_; have BK416 := n3_; have HB := n4_; have BK424 := n5_; have GW424 := n6_; have GE424 := n7_; have NB414_424 := n8_; have NB424_414 := n9_; have NB415_424 := n10_; have NB424_415 := n11_; have NB416_424 := n12_; have NB424_416 := n13_; clear n0_ n1_ n2_ n3_ n4_ n5_ n6_ n7_ n8_ n9_ n10_ n11_ n12_ n13_; clear hb hbox hg; have hnb34 := NB424_414.out; have hnc34 := NB414_424.out; have hnb35 := NB424_415.out; have hnc35 := NB415_424.out; have hnb36 := NB424_416.out; have hnc36 := NB416_424.out; have hcz37_0 : w33.cell? ⟨gb424, 0, none⟩ = some (.int .i64 0) := (blk_cell BK424.out 0).trans rfl; have hcz37_1 : w33.cell? ⟨gb424, 1, none⟩ = some (.int .i64 0) := (blk_cell BK424.out 1).trans rfl; have hcz37_2 : w33.cell? ⟨gb424, 2, none⟩ = some (.slice none 0 0) := (blk_cell BK424.out 2).trans rfl; have hfz37_0 := blk_frozen BK424.out 0; have hfz37_1 := blk_frozen BK424.out 1; have hfz37_2 := blk_frozen BK424.out 2; obtain ⟨Ao38, co38, eo38⟩ := Kd.R_slice HO422.out; subst eo38; have hcz39_0 : w33.cell? ⟨gb416, 0, none⟩ = some (.int .i64 a2_0) := (blk_cell BK416.out 0).trans rfl; have hcz39_1 : w33.cell? ⟨gb416, 1, none⟩ = some (.int .i64 a2_1) := (blk_cell BK416.out 1).trans rfl; have hcz39_2 : w33.cell? ⟨gb416, 2, none⟩ = some (.int .i64 a2_2) := (blk_cell BK416.out 2).trans rfl; have hcz39_3 : w33.cell? ⟨gb416, 3, none⟩ = some (.int .i64 a2_3) := (blk_cell BK416.out 3).trans rfl; have hcz39_4 : w33.cell? ⟨gb416, 4, none⟩ = some (.int .i64 a2_4) := (blk_cell BK416.out 4).trans rfl; have hcz39_5 : w33.cell? ⟨gb416, 5, none⟩ = some (.int .i64 a2_5) := (blk_cell BK416.out 5).trans rfl; have hfz39_0 := blk_frozen BK416.out 0; have hfz39_1 := blk_frozen BK416.out 1; have hfz39_2 := blk_frozen BK416.out 2; have hfz39_3 := blk_frozen BK416.out 3; have hfz39_4 := blk_frozen BK416.out 4; have hfz39_5 := blk_frozen BK416.out 5) | ((with_reducible refine gate_callee (f := 15) rfl ?_); refine goesL_ (some 31) rfl rfl Try.func15 (by kernel_rfl) rfl #[.agg #[.int .i64 t418, .int .i64 t419, .slice Ao38 t420.length co38], .agg #[.int .i64 a2_0, .int .i64 a2_1, .int .i64 a2_2, .int .i64 a2_3, .int .i64 a2_4, .int .i64 a2_5]] rfl (by (try simp only [List.map_toArray, List.map_cons, List.map_nil]); first | done | rfl | (simp only [List.length_drop, List.length_take]; rfl)) ?_; (with_reducible refine (board_Put.calls kj3 t418 t419 _ _ t420 a2_0 a2_1 a2_2 a2_3 a2_4 a2_5 t425 t426 t427 t430 _ ?side1 ?side2 A23.out).mono ?_); (case side1 => refine (Kd.R_reads' (e := 28) (base := w.heap.size) (ok := fun k_ => ((True ∧ k_ ≠ gb415) ∧ k_ ≠ gb416)) (n := t420.length) (c := co38) ?_).2.2; exact (by (with_reducible repeat (first | apply Kd.R_alloc | apply Kd.R_drewN | apply Kd.R_drew)); exact (Kd.R_mono (Kd.R_far (p := ⟨gb424, 2, none⟩) (Kd.R_far (p := ⟨gb424, 1, none⟩) (Kd.R_far (p := ⟨gb424, 0, none⟩) (Kd.R_types HO422.out BK424.out (by decide)) (fun _ hk => hk.2) (.int .i64 t418)) (fun _ hk => hk.2) (.int .i64 t419)) (fun _ hk => hk.2) (.slice Ao38 t420.length co38)) (fun _ h_ => h_.1)))); (case side2 => exact (Kd.R_reads' HO422.out).2.1); (try clear A23); rintro e w40 ⟨v428, rfl, ho0, hb⟩; refine ⟨_, rfl, ?_⟩; have n0_ := Aside0.mk (Kd.R_elder' (by (with_reducible repeat (first | apply Kd.R_alloc | apply Kd.R_drewN | apply Kd.R_drew)); exact (Kd.R_mono (Kd.R_far (p := ⟨gb424, 2, none⟩) (Kd.R_far (p := ⟨gb424, 1, none⟩) (Kd.R_far (p := ⟨gb424, 0, none⟩) (Kd.R_types HO422.out BK424.out (by decide)) (fun _ hk => hk.2) (.int .i64 t418)) (fun _ hk => hk.2) (.int .i64 t419)) (fun _ hk => hk.2) (.slice Ao38 t420.length co38)) (fun _ h_ => h_.1))) (Kd.R_base ho0) hb); have n1_ := Aside0.mk (Kd.R_lower (Kd.R_newB (Kd.R_newB (Kd.R_new' ho0 (Kd.R_lt (by (with_reducible repeat (first | apply Kd.R_alloc | apply Kd.R_drewN | apply Kd.R_drew)); exact (Kd.R_mono (Kd.R_far (p := ⟨gb424, 2, none⟩) (Kd.R_far (p := ⟨gb424, 1, none⟩) (Kd.R_far (p := ⟨gb424, 0, none⟩) (Kd.R_types HO422.out BK424.out (by decide)) (fun _ hk => hk.2) (.int .i64 t418)) (fun _ hk => hk.2) (.int .i64 t419)) (fun _ hk => hk.2) (.slice Ao38 t420.length co38)) (fun _ h_ => h_.1))))) (g := gb415) (o := .cells #[.int .i64 a1_0, .int .i64 a1_1, .int .i64 a1_2, .int .i64 a1_3, .int .i64 a1_4, .int .i64 a1_5] 28 (0, 0)) (by refine blk_far ?_ NB415_424.out _; refine blk_far ?_ NB415_424.out _; refine blk_far ?_ NB415_424.out _; exact BK415.out)) (g := gb416) (o := .cells #[.int .i64 a2_0, .int .i64 a2_1, .int .i64 a2_2, .int .i64 a2_3, .int .i64 a2_4, .int .i64 a2_5] 28 (0, 0)) (by refine blk_far ?_ NB416_424.out _; refine blk_far ?_ NB416_424.out _; refine blk_far ?_ NB416_424.out _; exact BK416.out)) (below_size (by repeat (with_reducible first | exact HB.out | apply pw_below_drewN | apply below_drew1 | refine below_set ?_ GE414.out | refine below_set ?_ GE415.out | refine below_set ?_ GE416.out | refine below_set ?_ GE424.out)))); have n2_ := Aside0.mk (blk_below (g := gb414) (o := .cells #[.int .i64 a0_0, .int .i64 a0_1, .slice A0_2 l0_2.length c0_2] 24 (0, 0)) (by refine blk_far ?_ NB414_424.out _; refine blk_far ?_ NB414_424.out _; refine blk_far ?_ NB414_424.out _; exact BK414.out) hb); have n3_ := Aside0.mk (blk_below (g := gb415) (o := .cells #[.int .i64 a1_0, .int .i64 a1_1, .int .i64 a1_2, .int .i64 a1_3, .int .i64 a1_4, .int .i64 a1_5] 28 (0, 0)) (by refine blk_far ?_ NB415_424.out _; refine blk_far ?_ NB415_424.out _; refine blk_far ?_ NB415_424.out _; exact BK415.out) hb); have n4_ := Aside0.mk (blk_below (g := gb416) (o := .cells #[.int .i64 a2_0, .int .i64 a2_1, .int .i64 a2_2, .int .i64 a2_3, .int .i64 a2_4, .int .i64 a2_5] 28 (0, 0)) (by refine blk_far ?_ NB416_424.out _; refine blk_far ?_ NB416_424.out _; refine blk_far ?_ NB416_424.out _; exact BK416.out) hb); have n5_ := Aside0.mk (blk_below (g := gb424) (o := .cells #[.int .i64 t418, .int .i64 t419, .slice Ao38 t420.length co38] 24 (0, 0)) (by refine blk_put (cs := #[.int .i64 t418, .int .i64 t419, .slice none 0 0]) ?_ 2 _ rfl; refine blk_put (cs := #[.int .i64 t418, .int .i64 0, .slice none 0 0]) ?_ 1 _ rfl; refine blk_put (cs := #[.int .i64 0, .int .i64 0, .slice none 0 0]) ?_ 0 _ rfl; exact BK424.out) hb); have n6_ := Aside0.mk (below_step (by repeat (with_reducible first | exact HB.out | apply pw_below_drewN | apply below_drew1 | refine below_set ?_ GE414.out | refine below_set ?_ GE415.out | refine below_set ?_ GE416.out | refine below_set ?_ GE424.out)) hb); clear HO422; clear BK414; clear BK415; clear BK416; clear BK424; clear HB; have HO422 := n0_; have HO429 := n1_; have BK414 := n2_; have BK415 := n3_; have BK416 := n4_; have BK424 := n5_; have HB := n6_; clear n0_ n1_ n2_ n3_ n4_ n5_ n6_; (try clear hb); (try clear hb2); (try clear hk); (try clear hi); (try clear ho0); have hcz41_0 : w40.cell? ⟨gb424, 0, none⟩ = some (.int .i64 t418) := (blk_cell BK424.out 0).trans rfl; have hcz41_1 : w40.cell? ⟨gb424, 1, none⟩ = some (.int .i64 t419) := (blk_cell BK424.out 1).trans rfl; have hcz41_2 : w40.cell? ⟨gb424, 2, none⟩ = some (.slice Ao38 t420.length co38) := (blk_cell BK424.out 2).trans rfl; have hfz41_0 := blk_frozen BK424.out 0; have hfz41_1 := blk_frozen BK424.out 1; have hfz41_2 := blk_frozen BK424.out 2; obtain ⟨Ao42, co42, eo42⟩ := Kd.R_slice HO429.out; subst eo42; have hcz43_0 : w40.cell? ⟨gb414, 0, none⟩ = some (.int .i64 a0_0) := (blk_cell BK414.out 0).trans rfl; have hcz43_1 : w40.cell? ⟨gb414, 1, none⟩ = some (.int .i64 a0_1) := (blk_cell BK414.out 1).trans rfl; have hcz43_2 : w40.cell? ⟨gb414, 2, none⟩ = some (.slice A0_2 l0_2.length c0_2) := (blk_cell BK414.out 2).trans rfl; have hfz43_0 := blk_frozen BK414.out 0; have hfz43_1 := blk_frozen BK414.out 1; have hfz43_2 := blk_frozen BK414.out 2; have hcz44_0 : w40.cell? ⟨gb416, 0, none⟩ = some (.int .i64 a2_0) := (blk_cell BK416.out 0).trans rfl; have hcz44_1 : w40.cell? ⟨gb416, 1, none⟩ = some (.int .i64 a2_1) := (blk_cell BK416.out 1).trans rfl; have hcz44_2 : w40.cell? ⟨gb416, 2, none⟩ = some (.int .i64 a2_2) := (blk_cell BK416.out 2).trans rfl; have hcz44_3 : w40.cell? ⟨gb416, 3, none⟩ = some (.int .i64 a2_3) := (blk_cell BK416.out 3).trans rfl; have hcz44_4 : w40.cell? ⟨gb416, 4, none⟩ = some (.int .i64 a2_4) := (blk_cell BK416.out 4).trans rfl; have hcz44_5 : w40.cell? ⟨gb416, 5, none⟩ = some (.int .i64 a2_5) := (blk_cell BK416.out 5).trans rfl; have hfz44_0 := blk_frozen BK416.out 0; have hfz44_1 := blk_frozen BK416.out 1; have hfz44_2 := blk_frozen BK416.out 2; have hfz44_3 := blk_frozen BK416.out 3; have hfz44_4 := blk_frozen BK416.out 4; have hfz44_5 := blk_frozen BK416.out 5) | ((with_reducible refine gate_callee (f := 15) rfl ?_); refine goesL_ (some 37) rfl rfl Try.func15 (by kernel_rfl) rfl #[.agg #[.int .i64 a0_0, .int .i64 a0_1, .slice A0_2 l0_2.length c0_2], .agg #[.int .i64 a2_0, .int .i64 a2_1, .int .i64 a2_2, .int .i64 a2_3, .int .i64 a2_4, .int .i64 a2_5]] rfl (by (try simp only [List.map_toArray, List.map_cons, List.map_nil]); first | done | rfl | (simp only [List.length_drop, List.length_take]; rfl)) ?_; (with_reducible refine (board_Put.calls kj3 a0_0 a0_1 _ _ l0_2 a2_0 a2_1 a2_2 a2_3 a2_4 a2_5 t431 t432 t433 t436 _ ?side1 ?side2 A24.out).mono ?_); (case side1 => exact Kd.C_below HR0_2.out (by repeat (with_reducible first | exact HB.out | apply pw_below_drewN | apply below_drew1 | refine below_set ?_ GE414.out | refine below_set ?_ GE415.out | refine below_set ?_ GE416.out | refine below_set ?_ GE424.out))); (case side2 => exact HC0_2.out); (try clear A24); rintro e w45 ⟨v434, rfl, ho0, hb⟩; refine ⟨_, rfl, ?_⟩; have n0_ := Aside0.mk (Kd.R_elder' (by (with_reducible repeat (first | apply Kd.R_alloc | apply Kd.R_drewN | apply Kd.R_drew)); exact (Kd.R_mono (Kd.R_far (p := ⟨gb424, 2, none⟩) (Kd.R_far (p := ⟨gb424, 1, none⟩) (Kd.R_far (p := ⟨gb424, 0, none⟩) (Kd.R_types HO422.out BK424.out (by decide)) (fun _ hk => hk.2) (.int .i64 t425)) (fun _ hk => hk.2) (.int .i64 t426)) (fun _ hk => hk.2) (.slice Ao42 t427.length co42)) (fun _ h_ => h_.1))) (Kd.R_base ho0) hb); have n1_ := Aside0.mk (Kd.R_elder' (by (with_reducible repeat (first | apply Kd.R_alloc | apply Kd.R_drewN | apply Kd.R_drew)); exact (Kd.R_mono (Kd.R_far (p := ⟨gb424, 2, none⟩) (Kd.R_far (p := ⟨gb424, 1, none⟩) (Kd.R_far (p := ⟨gb424, 0, none⟩) (Kd.R_types HO429.out BK424.out (by decide)) (fun _ hk => hk.2) (.int .i64 t425)) (fun _ hk => hk.2) (.int .i64 t426)) (fun _ hk => hk.2) (.slice Ao42 t427.length co42)) (fun _ h_ => h_.1))) (Kd.R_base ho0) hb); have n2_ := Aside0.mk (Kd.R_lower (Kd.R_newB (Kd.R_newB (Kd.R_new' (Kd.R_new' ho0 (Kd.R_lt (by (with_reducible repeat (first | apply Kd.R_alloc | apply Kd.R_drewN | apply Kd.R_drew)); exact (Kd.R_mono (Kd.R_far (p := ⟨gb424, 2, none⟩) (Kd.R_far (p := ⟨gb424, 1, none⟩) (Kd.R_far (p := ⟨gb424, 0, none⟩) (Kd.R_types HO422.out BK424.out (by decide)) (fun _ hk => hk.2) (.int .i64 t425)) (fun _ hk => hk.2) (.int .i64 t426)) (fun _ hk => hk.2) (.slice Ao42 t427.length co42)) (fun _ h_ => h_.1))))) (Kd.R_lt (by (with_reducible repeat (first | apply Kd.R_alloc | apply Kd.R_drewN | apply Kd.R_drew)); exact (Kd.R_mono (Kd.R_far (p := ⟨gb424, 2, none⟩) (Kd.R_far (p := ⟨gb424, 1, none⟩) (Kd.R_far (p := ⟨gb424, 0, none⟩) (Kd.R_types HO429.out BK424.out (by decide)) (fun _ hk => hk.2) (.int .i64 t425)) (fun _ hk => hk.2) (.int .i64 t426)) (fun _ hk => hk.2) (.slice Ao42 t427.length co42)) (fun _ h_ => h_.1))))) (g := gb415) (o := .cells #[.int .i64 a1_0, .int .i64 a1_1, .int .i64 a1_2, .int .i64 a1_3, .int .i64 a1_4, .int .i64 a1_5] 28 (0, 0)) (by refine blk_far ?_ NB415_424.out _; refine blk_far ?_ NB415_424.out _; refine blk_far ?_ NB415_424.out _; exact BK415.out)) (g := gb416) (o := .cells #[.int .i64 a2_0, .int .i64 a2_1, .int .i64 a2_2, .int .i64 a2_3, .int .i64 a2_4, .int .i64 a2_5] 28 (0, 0)) (by refine blk_far ?_ NB416_424.out _; refine blk_far ?_ NB416_424.out _; refine blk_far ?_ NB416_424.out _; exact BK416.out)) (below_size (by repeat (with_reducible first | exact HB.out | apply pw_below_drewN | apply below_drew1 | refine below_set ?_ GE414.out | refine below_set ?_ GE415.out | refine below_set ?_ GE416.out | refine below_set ?_ GE424.out)))); have n3_ := Aside0.mk (blk_below (g := gb414) (o := .cells #[.int .i64 a0_0, .int .i64 a0_1, .slice A0_2 l0_2.length c0_2] 24 (0, 0)) (by refine blk_far ?_ NB414_424.out _; refine blk_far ?_ NB414_424.out _; refine blk_far ?_ NB414_424.out _; exact BK414.out) hb); have n4_ := Aside0.mk (blk_below (g := gb415) (o := .cells #[.int .i64 a1_0, .int .i64 a1_1, .int .i64 a1_2, .int .i64 a1_3, .int .i64 a1_4, .int .i64 a1_5] 28 (0, 0)) (by refine blk_far ?_ NB415_424.out _; refine blk_far ?_ NB415_424.out _; refine blk_far ?_ NB415_424.out _; exact BK415.out) hb); have n5_ := Aside0.mk (blk_below (g := gb416) (o := .cells #[.int .i64 a2_0, .int .i64 a2_1, .int .i64 a2_2, .int .i64 a2_3, .int .i64 a2_4, .int .i64 a2_5] 28 (0, 0)) (by refine blk_far ?_ NB416_424.out _; refine blk_far ?_ NB416_424.out _; refine blk_far ?_ NB416_424.out _; exact BK416.out) hb); have n6_ := Aside0.mk (blk_below (g := gb424) (o := .cells #[.int .i64 t425, .int .i64 t426, .slice Ao42 t427.length co42] 24 (0, 0)) (by refine blk_put (cs := #[.int .i64 t425, .int .i64 t426, .slice Ao38 t420.length co38]) ?_ 2 _ rfl; refine blk_put (cs := #[.int .i64 t425, .int .i64 t419, .slice Ao38 t420.length co38]) ?_ 1 _ rfl; refine blk_put (cs := #[.int .i64 t418, .int .i64 t419, .slice Ao38 t420.length co38]) ?_ 0 _ rfl; exact BK424.out) hb); have n7_ := Aside0.mk (below_step (by repeat (with_reducible first | exact HB.out | apply pw_below_drewN | apply below_drew1 | refine below_set ?_ GE414.out | refine below_set ?_ GE415.out | refine below_set ?_ GE416.out | refine below_set ?_ GE424.out)) hb); clear HO422; clear HO429; clear BK414; clear BK415; clear BK416; clear BK424; clear HB; have HO422 := n0_; have HO429 := n1_; have HO435 := n2_; have BK414 := n3_; have BK415 := n4_; have BK416 := n5_; have BK424 := n6_; have HB := n7_; clear n0_ n1_ n2_ n3_ n4_ n5_ n6_ n7_; (try clear hb); (try clear hb2); (try clear hk); (try clear hi); (try clear ho0)) | ((with_reducible refine gate_dst (N := 10) rfl ?_); refine box_event ?hg (N := 10) ?hd (cs := #[.int .i64 0, .int .i64 0, .slice none 0 0]) (t := 24) ?hr ?_; (case hd => rfl); (case hg => rfl); (case hr => first | (go_simp; done) | (go_simp; rfl)); intro gb437 hg w46 hbox hb; have n0_ := Aside0.mk (Kd.R_below (HO422.out) hb); have n1_ := Aside0.mk (Kd.R_below (HO429.out) hb); have n2_ := Aside0.mk (Kd.R_below (HO435.out) hb); have n3_ := Aside0.mk (blk_below BK414.out hb); have n4_ := Aside0.mk (blk_below BK415.out hb); have n5_ := Aside0.mk (blk_below BK416.out hb); have n6_ := Aside0.mk (blk_below BK424.out hb); have n7_ := Aside0.mk (below_step (by repeat (with_reducible first | exact HB.out | apply pw_below_drewN | apply below_drew1 | refine below_set ?_ GE414.out | refine below_set ?_ GE415.out | refine below_set ?_ GE416.out | refine below_set ?_ GE424.out)) hb); have n8_ := Aside0.mk (hbox); have n9_ := Aside0.mk ((by rw [hg]; exact (below_size (by repeat (with_reducible first | exact HB.out | apply pw_below_drewN | apply below_drew1 | refine below_set ?_ GE414.out | refine below_set ?_ GE415.out | refine below_set ?_ GE416.out | refine below_set ?_ GE424.out))) : w.heap.size ≤ gb437)); have n10_ := Aside0.mk ((by rw [hg]; exact (below_size (by repeat (with_reducible first | exact HB.out | apply pw_below_drewN | apply below_drew1 | refine below_set ?_ GE414.out | refine below_set ?_ GE415.out | refine below_set ?_ GE416.out | refine below_set ?_ GE424.out))) : w.heap.size ≤ gb437)); have n11_ := Aside0.mk ((by rw [hg]; exact Nat.ne_of_lt (blk_lt BK414.out) : gb414 ≠ gb437)); have n12_ := Aside0.mk ((by rw [hg]; exact Nat.ne_of_gt (blk_lt BK414.out) : gb437 ≠ gb414)); have n13_ := Aside0.mk ((by rw [hg]; exact Nat.ne_of_lt (blk_lt BK415.out) : gb415 ≠ gb437)); have n14_ := Aside0.mk ((by rw [hg]; exact Nat.ne_of_gt (blk_lt BK415.out) : gb437 ≠ gb415)); have n15_ := Aside0.mk ((by rw [hg]; exact Nat.ne_of_lt (blk_lt BK416.out) : gb416 ≠ gb437)); have n16_ := Aside0.mk ((by rw [hg]; exact Nat.ne_of_gt (blk_lt BK416.out) : gb437 ≠ gb416)); have n17_ := Aside0.mk ((by rw [hg]; exact Nat.ne_of_lt (blk_lt BK424.out) : gb424 ≠ gb437)); have n18_ := Aside0.mk ((by rw [hg]; exact Nat.ne_of_gt (blk_lt BK424.out) : gb437 ≠ gb424)); clear HO422; clear HO429; clear HO435; clear BK414; clear BK415; clear BK416; clear BK424; clear HB; have HO422 := n0_; have HO429 := n1_; have HO435 := n2_; have BK414 := n3_; have BK415 := n4_; have BK416 := n5_; have BK424 := n6_; have HB := n7_; have BK437 := n8_; have GW437 := n9_; have GE437 := n10_; have NB414_437 := n11_; have NB437_414 := n12_; have NB415_437 := n13_; have NB437_415 := n14_; have NB416_437 := n15_; have NB437_416 := n16_; have NB424_437 := n17_; have NB437_424 := n18_; clear n0_ n1_ n2_ n3_ n4_ n5_ n6_ n7_ n8_ n9_ n10_ n11_ n12_ n13_ n14_ n15_ n16_ n17_ n18_; clear hb hbox hg; have hnb47 := NB437_414.out; have hnc47 := NB414_437.out; have hnb48 := NB437_415.out; have hnc48 := NB415_437.out; have hnb49 := NB437_416.out; have hnc49 := NB416_437.out; have hnb50 := NB437_424.out; have hnc50 := NB424_437.out; have hcz51_0 : w46.cell? ⟨gb437, 0, none⟩ = some (.int .i64 0) := (blk_cell BK437.out 0).trans rfl; have hcz51_1 : w46.cell? ⟨gb437, 1, none⟩ = some (.int .i64 0) := (blk_cell BK437.out 1).trans rfl; have hcz51_2 : w46.cell? ⟨gb437, 2, none⟩ = some (.slice none 0 0) := (blk_cell BK437.out 2).trans rfl; have hfz51_0 := blk_frozen BK437.out 0; have hfz51_1 := blk_frozen BK437.out 1; have hfz51_2 := blk_frozen BK437.out 2; obtain ⟨Ao52, co52, eo52⟩ := Kd.R_slice HO435.out; subst eo52; have hcz53_0 : w46.cell? ⟨gb415, 0, none⟩ = some (.int .i64 a1_0) := (blk_cell BK415.out 0).trans rfl; have hcz53_1 : w46.cell? ⟨gb415, 1, none⟩ = some (.int .i64 a1_1) := (blk_cell BK415.out 1).trans rfl; have hcz53_2 : w46.cell? ⟨gb415, 2, none⟩ = some (.int .i64 a1_2) := (blk_cell BK415.out 2).trans rfl; have hcz53_3 : w46.cell? ⟨gb415, 3, none⟩ = some (.int .i64 a1_3) := (blk_cell BK415.out 3).trans rfl; have hcz53_4 : w46.cell? ⟨gb415, 4, none⟩ = some (.int .i64 a1_4) := (blk_cell BK415.out 4).trans rfl; have hcz53_5 : w46.cell? ⟨gb415, 5, none⟩ = some (.int .i64 a1_5) := (blk_cell BK415.out 5).trans rfl; have hfz53_0 := blk_frozen BK415.out 0; have hfz53_1 := blk_frozen BK415.out 1; have hfz53_2 := blk_frozen BK415.out 2; have hfz53_3 := blk_frozen BK415.out 3; have hfz53_4 := blk_frozen BK415.out 4; have hfz53_5 := blk_frozen BK415.out 5) | ((with_reducible refine gate_callee (f := 15) rfl ?_); refine goesL_ (some 43) rfl rfl Try.func15 (by kernel_rfl) rfl #[.agg #[.int .i64 t431, .int .i64 t432, .slice Ao52 t433.length co52], .agg #[.int .i64 a1_0, .int .i64 a1_1, .int .i64 a1_2, .int .i64 a1_3, .int .i64 a1_4, .int .i64 a1_5]] rfl (by (try simp only [List.map_toArray, List.map_cons, List.map_nil]); first | done | rfl | (simp only [List.length_drop, List.length_take]; rfl)) ?_; (with_reducible refine (board_Put.calls kj3 t431 t432 _ _ t433 a1_0 a1_1 a1_2 a1_3 a1_4 a1_5 t438 t439 t440 t443 _ ?side1 ?side2 A25.out).mono ?_); (case side1 => refine (Kd.R_reads' (e := 28) (base := w.heap.size) (ok := fun k_ => ((((True ∧ some k_ ≠ (.slice Ao38 t420.length co38 : Value).ownBlock) ∧ some k_ ≠ (.slice Ao42 t427.length co42 : Value).ownBlock) ∧ k_ ≠ gb415) ∧ k_ ≠ gb416)) (n := t433.length) (c := co52) ?_).2.2; exact (by (with_reducible repeat (first | apply Kd.R_alloc | apply Kd.R_drewN | apply Kd.R_drew)); exact (Kd.R_mono (Kd.R_far (p := ⟨gb437, 2, none⟩) (Kd.R_far (p := ⟨gb437, 1, none⟩) (Kd.R_far (p := ⟨gb437, 0, none⟩) (Kd.R_types HO435.out BK437.out (by decide)) (fun _ hk => hk.2) (.int .i64 t431)) (fun _ hk => hk.2) (.int .i64 t432)) (fun _ hk => hk.2) (.slice Ao52 t433.length co52)) (fun _ h_ => h_.1)))); (case side2 => exact (Kd.R_reads' HO435.out).2.1); (try clear A25); rintro e w54 ⟨v441, rfl, ho0, hb⟩; refine ⟨_, rfl, ?_⟩; have n0_ := Aside0.mk (Kd.R_elder' (by (with_reducible repeat (first | apply Kd.R_alloc | apply Kd.R_drewN | apply Kd.R_drew)); exact (Kd.R_mono (Kd.R_far (p := ⟨gb437, 2, none⟩) (Kd.R_far (p := ⟨gb437, 1, none⟩) (Kd.R_far (p := ⟨gb437, 0, none⟩) (Kd.R_types HO422.out BK437.out (by decide)) (fun _ hk => hk.2) (.int .i64 t431)) (fun _ hk => hk.2) (.int .i64 t432)) (fun _ hk => hk.2) (.slice Ao52 t433.length co52)) (fun _ h_ => h_.1))) (Kd.R_base ho0) hb); have n1_ := Aside0.mk (Kd.R_elder' (by (with_reducible repeat (first | apply Kd.R_alloc | apply Kd.R_drewN | apply Kd.R_drew)); exact (Kd.R_mono (Kd.R_far (p := ⟨gb437, 2, none⟩) (Kd.R_far (p := ⟨gb437, 1, none⟩) (Kd.R_far (p := ⟨gb437, 0, none⟩) (Kd.R_types HO429.out BK437.out (by decide)) (fun _ hk => hk.2) (.int .i64 t431)) (fun _ hk => hk.2) (.int .i64 t432)) (fun _ hk => hk.2) (.slice Ao52 t433.length co52)) (fun _ h_ => h_.1))) (Kd.R_base ho0) hb); have n2_ := Aside0.mk (Kd.R_elder' (by (with_reducible repeat (first | apply Kd.R_alloc | apply Kd.R_drewN | apply Kd.R_drew)); exact (Kd.R_mono (Kd.R_far (p := ⟨gb437, 2, none⟩) (Kd.R_far (p := ⟨gb437, 1, none⟩) (Kd.R_far (p := ⟨gb437, 0, none⟩) (Kd.R_types HO435.out BK437.out (by decide)) (fun _ hk => hk.2) (.int .i64 t431)) (fun _ hk => hk.2) (.int .i64 t432)) (fun _ hk => hk.2) (.slice Ao52 t433.length co52)) (fun _ h_ => h_.1))) (Kd.R_base ho0) hb); have n3_ := Aside0.mk (Kd.R_lower (Kd.R_newB (Kd.R_newB (Kd.R_new' (Kd.R_new' (Kd.R_new' ho0 (Kd.R_lt (by (with_reducible repeat (first | apply Kd.R_alloc | apply Kd.R_drewN | apply Kd.R_drew)); exact (Kd.R_mono (Kd.R_far (p := ⟨gb437, 2, none⟩) (Kd.R_far (p := ⟨gb437, 1, none⟩) (Kd.R_far (p := ⟨gb437, 0, none⟩) (Kd.R_types HO422.out BK437.out (by decide)) (fun _ hk => hk.2) (.int .i64 t431)) (fun _ hk => hk.2) (.int .i64 t432)) (fun _ hk => hk.2) (.slice Ao52 t433.length co52)) (fun _ h_ => h_.1))))) (Kd.R_lt (by (with_reducible repeat (first | apply Kd.R_alloc | apply Kd.R_drewN | apply Kd.R_drew)); exact (Kd.R_mono (Kd.R_far (p := ⟨gb437, 2, none⟩) (Kd.R_far (p := ⟨gb437, 1, none⟩) (Kd.R_far (p := ⟨gb437, 0, none⟩) (Kd.R_types HO429.out BK437.out (by decide)) (fun _ hk => hk.2) (.int .i64 t431)) (fun _ hk => hk.2) (.int .i64 t432)) (fun _ hk => hk.2) (.slice Ao52 t433.length co52)) (fun _ h_ => h_.1))))) (Kd.R_lt (by (with_reducible repeat (first | apply Kd.R_alloc | apply Kd.R_drewN | apply Kd.R_drew)); exact (Kd.R_mono (Kd.R_far (p := ⟨gb437, 2, none⟩) (Kd.R_far (p := ⟨gb437, 1, none⟩) (Kd.R_far (p := ⟨gb437, 0, none⟩) (Kd.R_types HO435.out BK437.out (by decide)) (fun _ hk => hk.2) (.int .i64 t431)) (fun _ hk => hk.2) (.int .i64 t432)) (fun _ hk => hk.2) (.slice Ao52 t433.length co52)) (fun _ h_ => h_.1))))) (g := gb415) (o := .cells #[.int .i64 a1_0, .int .i64 a1_1, .int .i64 a1_2, .int .i64 a1_3, .int .i64 a1_4, .int .i64 a1_5] 28 (0, 0)) (by refine blk_far ?_ NB415_437.out _; refine blk_far ?_ NB415_437.out _; refine blk_far ?_ NB415_437.out _; exact BK415.out)) (g := gb416) (o := .cells #[.int .i64 a2_0, .int .i64 a2_1, .int .i64 a2_2, .int .i64 a2_3, .int .i64 a2_4, .int .i64 a2_5] 28 (0, 0)) (by refine blk_far ?_ NB416_437.out _; refine blk_far ?_ NB416_437.out _; refine blk_far ?_ NB416_437.out _; exact BK416.out)) (below_size (by repeat (with_reducible first | exact HB.out | apply pw_below_drewN | apply below_drew1 | refine below_set ?_ GE414.out | refine below_set ?_ GE415.out | refine below_set ?_ GE416.out | refine below_set ?_ GE424.out | refine below_set ?_ GE437.out)))); have n4_ := Aside0.mk (blk_below (g := gb414) (o := .cells #[.int .i64 a0_0, .int .i64 a0_1, .slice A0_2 l0_2.length c0_2] 24 (0, 0)) (by refine blk_far ?_ NB414_437.out _; refine blk_far ?_ NB414_437.out _; refine blk_far ?_ NB414_437.out _; exact BK414.out) hb); have n5_ := Aside0.mk (blk_below (g := gb415) (o := .cells #[.int .i64 a1_0, .int .i64 a1_1, .int .i64 a1_2, .int .i64 a1_3, .int .i64 a1_4, .int .i64 a1_5] 28 (0, 0)) (by refine blk_far ?_ NB415_437.out _; refine blk_far ?_ NB415_437.out _; refine blk_far ?_ NB415_437.out _; exact BK415.out) hb); have n6_ := Aside0.mk (blk_below (g := gb416) (o := .cells #[.int .i64 a2_0, .int .i64 a2_1, .int .i64 a2_2, .int .i64 a2_3, .int .i64 a2_4, .int .i64 a2_5] 28 (0, 0)) (by refine blk_far ?_ NB416_437.out _; refine blk_far ?_ NB416_437.out _; refine blk_far ?_ NB416_437.out _; exact BK416.out) hb); have n7_ := Aside0.mk (blk_below (g := gb424) (o := .cells #[.int .i64 t425, .int .i64 t426, .slice Ao42 t427.length co42] 24 (0, 0)) (by refine blk_far ?_ NB424_437.out _; refine blk_far ?_ NB424_437.out _; refine blk_far ?_ NB424_437.out _; exact BK424.out) hb); have n8_ := Aside0.mk (blk_below (g := gb437) (o := .cells #[.int .i64 t431, .int .i64 t432, .slice Ao52 t433.length co52] 24 (0, 0)) (by refine blk_put (cs := #[.int .i64 t431, .int .i64 t432, .slice none 0 0]) ?_ 2 _ rfl; refine blk_put (cs := #[.int .i64 t431, .int .i64 0, .slice none 0 0]) ?_ 1 _ rfl; refine blk_put (cs := #[.int .i64 0, .int .i64 0, .slice none 0 0]) ?_ 0 _ rfl; exact BK437.out) hb); have n9_ := Aside0.mk (below_step (by repeat (with_reducible first | exact HB.out | apply pw_below_drewN | apply below_drew1 | refine below_set ?_ GE414.out | refine below_set ?_ GE415.out | refine below_set ?_ GE416.out | refine below_set ?_ GE424.out | refine below_set ?_ GE437.out)) hb); clear HO422; clear HO429; clear HO435; clear BK414; clear BK415; clear BK416; clear BK424; clear BK437; clear HB; have HO422 := n0_; have HO429 := n1_; have HO435 := n2_; have HO442 := n3_; have BK414 := n4_; have BK415 := n5_; have BK416 := n6_; have BK424 := n7_; have BK437 := n8_; have HB := n9_; clear n0_ n1_ n2_ n3_ n4_ n5_ n6_ n7_ n8_ n9_; (try clear hb); (try clear hb2); (try clear hk); (try clear hi); (try clear ho0); have hcz55_0 : w54.cell? ⟨gb437, 0, none⟩ = some (.int .i64 t431) := (blk_cell BK437.out 0).trans rfl; have hcz55_1 : w54.cell? ⟨gb437, 1, none⟩ = some (.int .i64 t432) := (blk_cell BK437.out 1).trans rfl; have hcz55_2 : w54.cell? ⟨gb437, 2, none⟩ = some (.slice Ao52 t433.length co52) := (blk_cell BK437.out 2).trans rfl; have hfz55_0 := blk_frozen BK437.out 0; have hfz55_1 := blk_frozen BK437.out 1; have hfz55_2 := blk_frozen BK437.out 2; obtain ⟨Ao56, co56, eo56⟩ := Kd.R_slice HO442.out; subst eo56))
        (try simp only [Act.put, List.setIfInBounds_toArray, List.set_cons_zero, List.set_cons_succ])
        go_cut [51] (fun v51 wc => ∃ (kq : Nat) (x51_25 : Bool), v51 = .bool x51_25 ∧ Aside0 (watchmanlaw08_BoardOrder.j1 kq t436 t443 x51_25 t425 t426 t427 t438 t439 t440 = some r) ∧ Aside0 (kq ≤ kj3) ∧ Aside0 (Kd.R k28 28 wc w.heap.size (fun k_ => some k_ ≠ ((.slice Ao56 t440.length co56) : Value).ownBlock ∧ k_ ≠ gb415 ∧ k_ ≠ gb416) (.slice Ao42 t427.length co42) t427) ∧ Aside0 (Kd.R k28 28 wc w.heap.size (fun k_ => some k_ ≠ ((.slice Ao42 t427.length co42) : Value).ownBlock ∧ k_ ≠ gb415 ∧ k_ ≠ gb416) (.slice Ao56 t440.length co56) t440) ∧ Aside0 (wc.heap[gb414]? = some (.cells #[.int .i64 a0_0, .int .i64 a0_1, (.slice A0_2 l0_2.length c0_2)] 24 (0, 0))) ∧ Aside0 (wc.heap[gb415]? = some (.cells #[.int .i64 a1_0, .int .i64 a1_1, .int .i64 a1_2, .int .i64 a1_3, .int .i64 a1_4, .int .i64 a1_5] 28 (0, 0))) ∧ Aside0 (wc.heap[gb416]? = some (.cells #[.int .i64 a2_0, .int .i64 a2_1, .int .i64 a2_2, .int .i64 a2_3, .int .i64 a2_4, .int .i64 a2_5] 28 (0, 0))) ∧ Aside0 (wc.heap[gb424]? = some (.cells #[.int .i64 t425, .int .i64 t426, (.slice Ao42 t427.length co42)] 24 (0, 0))) ∧ Aside0 (wc.heap[gb437]? = some (.cells #[.int .i64 t438, .int .i64 t439, (.slice Ao56 t440.length co56)] 24 (0, 0))) ∧ Aside0 (Below w.heap.size w wc))
        case first =>
          have H := HC26.out
          clear HC26
          by_cases c57 : t423 = 0
          · rw [if_pos c57] at H
            have c57b0 : (t423 == 0) = true := beq_iff_eq.mpr c57
            have c57b1 : (t423 != 0) = false := bne_eq_false_iff_eq.mpr c57
            clear c57
            (first | rw [c57b0] | (simp only [i64_w, i32_w]; rw [c57b0]) | skip)
            have H' := Aside0.mk H
            clear H
            go_wp2
            go_meet
            case rel => exact ⟨_, ((t430 != 0)), (by first | rfl | (simp; done) | (simp [*]; done)), H', ⟨by have := HJ3.out; first | omega | exact Nat.le_refl _⟩, ⟨by (with_reducible repeat (first | apply Kd.R_alloc | apply Kd.R_drewN | apply Kd.R_drew)); exact Kd.R_mono (Kd.R_far (p := ⟨gb437, 2, none⟩) (Kd.R_far (p := ⟨gb437, 1, none⟩) (Kd.R_far (p := ⟨gb437, 0, none⟩) (Kd.R_types HO429.out BK437.out (by decide)) (fun _ hk => hk.2) (.int .i64 t438)) (fun _ hk => hk.2) (.int .i64 t439)) (fun _ hk => hk.2) (.slice Ao56 t440.length co56)) (fun _ hk => ⟨hk.1.2, ⟨hk.1.1.1.1.2, hk.1.1.1.2⟩⟩)⟩, ⟨by (with_reducible repeat (first | apply Kd.R_alloc | apply Kd.R_drewN | apply Kd.R_drew)); exact Kd.R_mono (Kd.R_far (p := ⟨gb437, 2, none⟩) (Kd.R_far (p := ⟨gb437, 1, none⟩) (Kd.R_far (p := ⟨gb437, 0, none⟩) (Kd.R_types HO442.out BK437.out (by decide)) (fun _ hk => hk.2) (.int .i64 t438)) (fun _ hk => hk.2) (.int .i64 t439)) (fun _ hk => hk.2) (.slice Ao56 t440.length co56)) (fun _ hk => ⟨hk.1.1.1.1.2, ⟨hk.1.1.2, hk.1.2⟩⟩)⟩, ⟨by (with_reducible repeat (first | refine blk_drewN ?_ _ | refine blk_drew ?_ | refine blk_alloc ?_ _)); refine blk_far ?_ NB414_437.out _; (with_reducible repeat (first | refine blk_drewN ?_ _ | refine blk_drew ?_ | refine blk_alloc ?_ _)); refine blk_far ?_ NB414_437.out _; (with_reducible repeat (first | refine blk_drewN ?_ _ | refine blk_drew ?_ | refine blk_alloc ?_ _)); refine blk_far ?_ NB414_437.out _; (with_reducible repeat (first | refine blk_drewN ?_ _ | refine blk_drew ?_ | refine blk_alloc ?_ _)); exact BK414.out⟩, ⟨by (with_reducible repeat (first | refine blk_drewN ?_ _ | refine blk_drew ?_ | refine blk_alloc ?_ _)); refine blk_far ?_ NB415_437.out _; (with_reducible repeat (first | refine blk_drewN ?_ _ | refine blk_drew ?_ | refine blk_alloc ?_ _)); refine blk_far ?_ NB415_437.out _; (with_reducible repeat (first | refine blk_drewN ?_ _ | refine blk_drew ?_ | refine blk_alloc ?_ _)); refine blk_far ?_ NB415_437.out _; (with_reducible repeat (first | refine blk_drewN ?_ _ | refine blk_drew ?_ | refine blk_alloc ?_ _)); exact BK415.out⟩, ⟨by (with_reducible repeat (first | refine blk_drewN ?_ _ | refine blk_drew ?_ | refine blk_alloc ?_ _)); refine blk_far ?_ NB416_437.out _; (with_reducible repeat (first | refine blk_drewN ?_ _ | refine blk_drew ?_ | refine blk_alloc ?_ _)); refine blk_far ?_ NB416_437.out _; (with_reducible repeat (first | refine blk_drewN ?_ _ | refine blk_drew ?_ | refine blk_alloc ?_ _)); refine blk_far ?_ NB416_437.out _; (with_reducible repeat (first | refine blk_drewN ?_ _ | refine blk_drew ?_ | refine blk_alloc ?_ _)); exact BK416.out⟩, ⟨by (with_reducible repeat (first | refine blk_drewN ?_ _ | refine blk_drew ?_ | refine blk_alloc ?_ _)); refine blk_far ?_ NB424_437.out _; (with_reducible repeat (first | refine blk_drewN ?_ _ | refine blk_drew ?_ | refine blk_alloc ?_ _)); refine blk_far ?_ NB424_437.out _; (with_reducible repeat (first | refine blk_drewN ?_ _ | refine blk_drew ?_ | refine blk_alloc ?_ _)); refine blk_far ?_ NB424_437.out _; (with_reducible repeat (first | refine blk_drewN ?_ _ | refine blk_drew ?_ | refine blk_alloc ?_ _)); exact BK424.out⟩, ⟨by (with_reducible repeat (first | refine blk_drewN ?_ _ | refine blk_drew ?_ | refine blk_alloc ?_ _)); refine blk_put (cs := #[.int .i64 t438, .int .i64 t439, .slice Ao52 t433.length co52]) ?_ 2 _ rfl; (with_reducible repeat (first | refine blk_drewN ?_ _ | refine blk_drew ?_ | refine blk_alloc ?_ _)); refine blk_put (cs := #[.int .i64 t438, .int .i64 t432, .slice Ao52 t433.length co52]) ?_ 1 _ rfl; (with_reducible repeat (first | refine blk_drewN ?_ _ | refine blk_drew ?_ | refine blk_alloc ?_ _)); refine blk_put (cs := #[.int .i64 t431, .int .i64 t432, .slice Ao52 t433.length co52]) ?_ 0 _ rfl; (with_reducible repeat (first | refine blk_drewN ?_ _ | refine blk_drew ?_ | refine blk_alloc ?_ _)); exact BK437.out⟩, ⟨by repeat (with_reducible first | exact HB.out | apply pw_below_drewN | apply below_drew1 | refine below_set ?_ GE414.out | refine below_set ?_ GE415.out | refine below_set ?_ GE416.out | refine below_set ?_ GE424.out | refine below_set ?_ GE437.out)⟩⟩
          · rw [if_neg c57] at H
            have c57b0 : (t423 == 0) = false := beq_eq_false_iff_ne.mpr c57
            have c57b1 : (t423 != 0) = true := bne_iff_ne.mpr c57
            (first | rw [c57b0] | (simp only [i64_w, i32_w]; rw [c57b0]) | skip)
            have H' := Aside0.mk H
            clear H
            go_wp2
            go_meet
            case rel => exact ⟨_, (true), (by first | rfl | (simp; done) | (simp [*]; done)), H', ⟨by have := HJ3.out; first | omega | exact Nat.le_refl _⟩, ⟨by (with_reducible repeat (first | apply Kd.R_alloc | apply Kd.R_drewN | apply Kd.R_drew)); exact Kd.R_mono (Kd.R_far (p := ⟨gb437, 2, none⟩) (Kd.R_far (p := ⟨gb437, 1, none⟩) (Kd.R_far (p := ⟨gb437, 0, none⟩) (Kd.R_types HO429.out BK437.out (by decide)) (fun _ hk => hk.2) (.int .i64 t438)) (fun _ hk => hk.2) (.int .i64 t439)) (fun _ hk => hk.2) (.slice Ao56 t440.length co56)) (fun _ hk => ⟨hk.1.2, ⟨hk.1.1.1.1.2, hk.1.1.1.2⟩⟩)⟩, ⟨by (with_reducible repeat (first | apply Kd.R_alloc | apply Kd.R_drewN | apply Kd.R_drew)); exact Kd.R_mono (Kd.R_far (p := ⟨gb437, 2, none⟩) (Kd.R_far (p := ⟨gb437, 1, none⟩) (Kd.R_far (p := ⟨gb437, 0, none⟩) (Kd.R_types HO442.out BK437.out (by decide)) (fun _ hk => hk.2) (.int .i64 t438)) (fun _ hk => hk.2) (.int .i64 t439)) (fun _ hk => hk.2) (.slice Ao56 t440.length co56)) (fun _ hk => ⟨hk.1.1.1.1.2, ⟨hk.1.1.2, hk.1.2⟩⟩)⟩, ⟨by (with_reducible repeat (first | refine blk_drewN ?_ _ | refine blk_drew ?_ | refine blk_alloc ?_ _)); refine blk_far ?_ NB414_437.out _; (with_reducible repeat (first | refine blk_drewN ?_ _ | refine blk_drew ?_ | refine blk_alloc ?_ _)); refine blk_far ?_ NB414_437.out _; (with_reducible repeat (first | refine blk_drewN ?_ _ | refine blk_drew ?_ | refine blk_alloc ?_ _)); refine blk_far ?_ NB414_437.out _; (with_reducible repeat (first | refine blk_drewN ?_ _ | refine blk_drew ?_ | refine blk_alloc ?_ _)); exact BK414.out⟩, ⟨by (with_reducible repeat (first | refine blk_drewN ?_ _ | refine blk_drew ?_ | refine blk_alloc ?_ _)); refine blk_far ?_ NB415_437.out _; (with_reducible repeat (first | refine blk_drewN ?_ _ | refine blk_drew ?_ | refine blk_alloc ?_ _)); refine blk_far ?_ NB415_437.out _; (with_reducible repeat (first | refine blk_drewN ?_ _ | refine blk_drew ?_ | refine blk_alloc ?_ _)); refine blk_far ?_ NB415_437.out _; (with_reducible repeat (first | refine blk_drewN ?_ _ | refine blk_drew ?_ | refine blk_alloc ?_ _)); exact BK415.out⟩, ⟨by (with_reducible repeat (first | refine blk_drewN ?_ _ | refine blk_drew ?_ | refine blk_alloc ?_ _)); refine blk_far ?_ NB416_437.out _; (with_reducible repeat (first | refine blk_drewN ?_ _ | refine blk_drew ?_ | refine blk_alloc ?_ _)); refine blk_far ?_ NB416_437.out _; (with_reducible repeat (first | refine blk_drewN ?_ _ | refine blk_drew ?_ | refine blk_alloc ?_ _)); refine blk_far ?_ NB416_437.out _; (with_reducible repeat (first | refine blk_drewN ?_ _ | refine blk_drew ?_ | refine blk_alloc ?_ _)); exact BK416.out⟩, ⟨by (with_reducible repeat (first | refine blk_drewN ?_ _ | refine blk_drew ?_ | refine blk_alloc ?_ _)); refine blk_far ?_ NB424_437.out _; (with_reducible repeat (first | refine blk_drewN ?_ _ | refine blk_drew ?_ | refine blk_alloc ?_ _)); refine blk_far ?_ NB424_437.out _; (with_reducible repeat (first | refine blk_drewN ?_ _ | refine blk_drew ?_ | refine blk_alloc ?_ _)); refine blk_far ?_ NB424_437.out _; (with_reducible repeat (first | refine blk_drewN ?_ _ | refine blk_drew ?_ | refine blk_alloc ?_ _)); exact BK424.out⟩, ⟨by (with_reducible repeat (first | refine blk_drewN ?_ _ | refine blk_drew ?_ | refine blk_alloc ?_ _)); refine blk_put (cs := #[.int .i64 t438, .int .i64 t439, .slice Ao52 t433.length co52]) ?_ 2 _ rfl; (with_reducible repeat (first | refine blk_drewN ?_ _ | refine blk_drew ?_ | refine blk_alloc ?_ _)); refine blk_put (cs := #[.int .i64 t438, .int .i64 t432, .slice Ao52 t433.length co52]) ?_ 1 _ rfl; (with_reducible repeat (first | refine blk_drewN ?_ _ | refine blk_drew ?_ | refine blk_alloc ?_ _)); refine blk_put (cs := #[.int .i64 t431, .int .i64 t432, .slice Ao52 t433.length co52]) ?_ 0 _ rfl; (with_reducible repeat (first | refine blk_drewN ?_ _ | refine blk_drew ?_ | refine blk_alloc ?_ _)); exact BK437.out⟩, ⟨by repeat (with_reducible first | exact HB.out | apply pw_below_drewN | apply below_drew1 | refine below_set ?_ GE414.out | refine below_set ?_ GE415.out | refine below_set ?_ GE416.out | refine below_set ?_ GE424.out | refine below_set ?_ GE437.out)⟩⟩
        case rest =>
          clear HC26
          try clear c1
          try clear c2
          try clear p2
          try clear c3
          try clear c4
          try clear c5
          try clear c7
          try clear c9
          try clear c10
          try clear c11
          try clear c13
          try clear c14
          try clear c15
          try clear c18
          try clear c21
          try clear c27
          try clear c28
          try clear c30
          try clear c34
          try clear c35
          try clear c36
          try clear c47
          try clear c48
          try clear c49
          try clear c50
          try clear c57
          try clear c57b0
          try clear c57b1
          try clear hcz12_0
          try clear hcz12_1
          try clear hcz12_2
          try clear hcz16_0
          try clear hcz16_1
          try clear hcz16_2
          try clear hcz19_0
          try clear hcz19_1
          try clear hcz19_2
          try clear hcz19_3
          try clear hcz19_4
          try clear hcz19_5
          try clear hcz20_0
          try clear hcz20_1
          try clear hcz20_2
          try clear hcz20_3
          try clear hcz20_4
          try clear hcz20_5
          try clear hcz29_0
          try clear hcz29_1
          try clear hcz29_2
          try clear hcz31_0
          try clear hcz31_1
          try clear hcz31_2
          try clear hcz31_3
          try clear hcz31_4
          try clear hcz31_5
          try clear hcz37_0
          try clear hcz37_1
          try clear hcz37_2
          try clear hcz39_0
          try clear hcz39_1
          try clear hcz39_2
          try clear hcz39_3
          try clear hcz39_4
          try clear hcz39_5
          try clear hcz41_0
          try clear hcz41_1
          try clear hcz41_2
          try clear hcz43_0
          try clear hcz43_1
          try clear hcz43_2
          try clear hcz44_0
          try clear hcz44_1
          try clear hcz44_2
          try clear hcz44_3
          try clear hcz44_4
          try clear hcz44_5
          try clear hcz51_0
          try clear hcz51_1
          try clear hcz51_2
          try clear hcz53_0
          try clear hcz53_1
          try clear hcz53_2
          try clear hcz53_3
          try clear hcz53_4
          try clear hcz53_5
          try clear hcz55_0
          try clear hcz55_1
          try clear hcz55_2
          try clear hfz12_0
          try clear hfz12_1
          try clear hfz12_2
          try clear hfz16_0
          try clear hfz16_1
          try clear hfz16_2
          try clear hfz19_0
          try clear hfz19_1
          try clear hfz19_2
          try clear hfz19_3
          try clear hfz19_4
          try clear hfz19_5
          try clear hfz20_0
          try clear hfz20_1
          try clear hfz20_2
          try clear hfz20_3
          try clear hfz20_4
          try clear hfz20_5
          try clear hfz29_0
          try clear hfz29_1
          try clear hfz29_2
          try clear hfz31_0
          try clear hfz31_1
          try clear hfz31_2
          try clear hfz31_3
          try clear hfz31_4
          try clear hfz31_5
          try clear hfz37_0
          try clear hfz37_1
          try clear hfz37_2
          try clear hfz39_0
          try clear hfz39_1
          try clear hfz39_2
          try clear hfz39_3
          try clear hfz39_4
          try clear hfz39_5
          try clear hfz41_0
          try clear hfz41_1
          try clear hfz41_2
          try clear hfz43_0
          try clear hfz43_1
          try clear hfz43_2
          try clear hfz44_0
          try clear hfz44_1
          try clear hfz44_2
          try clear hfz44_3
          try clear hfz44_4
          try clear hfz44_5
          try clear hfz51_0
          try clear hfz51_1
          try clear hfz51_2
          try clear hfz53_0
          try clear hfz53_1
          try clear hfz53_2
          try clear hfz53_3
          try clear hfz53_4
          try clear hfz53_5
          try clear hfz55_0
          try clear hfz55_1
          try clear hfz55_2
          try clear p2
          obtain ⟨kq, x51_25, rfl, HA, HJ25, HO_425002, HO_438002, BK414, BK415, BK416, BK424, BK437, HB⟩ := hcut
          cases kq with
          | zero => exact absurd HA.out (by simp [watchmanlaw08_BoardOrder.j1])
          | succ kj25 =>
            have H := HA.out
            clear HA
            simp only [watchmanlaw08_BoardOrder.j1] at H
            by_cases c58 : x51_25 = true
            · subst c58
              have H1 : ((watchmanlaw08_boards.f kj25).bind fun t444 => (if t444 = true then (if t436 = 0 then (some (t443 != 0)) else (some true)) else (none))) = some r := by rw [if_pos rfl] at H; exact H
              clear H
              have H := H1
              clear H1
              replace H := Option.bind_eq_some_iff.mp H
              obtain ⟨t444, A590, H⟩ := H
              replace H : (if t444 = true then (if t436 = 0 then (some (t443 != 0)) else (some true)) else (none)) = some r := H
              have A59 := Aside0.mk A590
              clear A590
              by_cases c60 : t444 = true
              · subst c60
                have H1 : (if t436 = 0 then (some (t443 != 0)) else (some true)) = some r := by rw [if_pos rfl] at H; exact H
                clear H
                have H := H1
                clear H1
                by_cases c61 : t436 = 0
                · rw [if_pos c61] at H
                  have c61b0 : (t436 == 0) = true := beq_iff_eq.mpr c61
                  have c61b1 : (t436 != 0) = false := bne_eq_false_iff_eq.mpr c61
                  clear c61
                  obtain rfl := Option.some.inj H
                  go_wp2_with (first | ((with_reducible refine gate_callee (f := 31) rfl ?_); refine goesL_ (some 52) rfl rfl Try.func31 (by kernel_rfl) rfl #[] rfl (by (try simp only [List.map_toArray, List.map_cons, List.map_nil]); first | done | rfl | (simp only [List.length_drop, List.length_take]; rfl)) ?_; (with_reducible refine (watchmanlaw08_boards.calls kj25  true _ A59.out).mono ?_); rintro e w62 ⟨rfl, hb⟩; refine ⟨_, rfl, ?_⟩; have n0_ := Aside0.mk (Kd.R_below (HO_425002.out) hb); have n1_ := Aside0.mk (Kd.R_below (HO_438002.out) hb); have n2_ := Aside0.mk (blk_below BK414.out hb); have n3_ := Aside0.mk (blk_below BK415.out hb); have n4_ := Aside0.mk (blk_below BK416.out hb); have n5_ := Aside0.mk (blk_below BK424.out hb); have n6_ := Aside0.mk (blk_below BK437.out hb); have n7_ := Aside0.mk (below_step (by repeat (with_reducible first | exact HB.out | apply pw_below_drewN | apply below_drew1 | refine below_set ?_ GE414.out | refine below_set ?_ GE415.out | refine below_set ?_ GE416.out | refine below_set ?_ GE424.out | refine below_set ?_ GE437.out)) hb); clear HO_425002; clear HO_438002; clear BK414; clear BK415; clear BK416; clear BK424; clear BK437; clear HB; have HO_425002 := n0_; have HO_438002 := n1_; have BK414 := n2_; have BK415 := n3_; have BK416 := n4_; have BK424 := n5_; have BK437 := n6_; have HB := n7_; clear n0_ n1_ n2_ n3_ n4_ n5_ n6_ n7_; (try clear hb); (try clear hb2); (try clear hk); (try clear hi)))
                  go_ret
                  exact ⟨by first | rfl | (simp [errW_none, errW_some] <;> rfl) | (simp [*, errW_none, errW_some] <;> rfl), by repeat (with_reducible first | exact HB.out | apply pw_below_drewN | apply below_drew1 | refine below_set ?_ GE414.out | refine below_set ?_ GE415.out | refine below_set ?_ GE416.out | refine below_set ?_ GE424.out | refine below_set ?_ GE437.out)⟩
                · rw [if_neg c61] at H
                  have c61b0 : (t436 == 0) = false := beq_eq_false_iff_ne.mpr c61
                  have c61b1 : (t436 != 0) = true := bne_iff_ne.mpr c61
                  obtain rfl := Option.some.inj H
                  go_wp2_with (first | ((with_reducible refine gate_callee (f := 31) rfl ?_); refine goesL_ (some 52) rfl rfl Try.func31 (by kernel_rfl) rfl #[] rfl (by (try simp only [List.map_toArray, List.map_cons, List.map_nil]); first | done | rfl | (simp only [List.length_drop, List.length_take]; rfl)) ?_; (with_reducible refine (watchmanlaw08_boards.calls kj25  true _ A59.out).mono ?_); rintro e w63 ⟨rfl, hb⟩; refine ⟨_, rfl, ?_⟩; have n0_ := Aside0.mk (Kd.R_below (HO_425002.out) hb); have n1_ := Aside0.mk (Kd.R_below (HO_438002.out) hb); have n2_ := Aside0.mk (blk_below BK414.out hb); have n3_ := Aside0.mk (blk_below BK415.out hb); have n4_ := Aside0.mk (blk_below BK416.out hb); have n5_ := Aside0.mk (blk_below BK424.out hb); have n6_ := Aside0.mk (blk_below BK437.out hb); have n7_ := Aside0.mk (below_step (by repeat (with_reducible first | exact HB.out | apply pw_below_drewN | apply below_drew1 | refine below_set ?_ GE414.out | refine below_set ?_ GE415.out | refine below_set ?_ GE416.out | refine below_set ?_ GE424.out | refine below_set ?_ GE437.out)) hb); clear HO_425002; clear HO_438002; clear BK414; clear BK415; clear BK416; clear BK424; clear BK437; clear HB; have HO_425002 := n0_; have HO_438002 := n1_; have BK414 := n2_; have BK415 := n3_; have BK416 := n4_; have BK424 := n5_; have BK437 := n6_; have HB := n7_; clear n0_ n1_ n2_ n3_ n4_ n5_ n6_ n7_; (try clear hb); (try clear hb2); (try clear hk); (try clear hi)))
                  go_ret
                  exact ⟨by first | rfl | (simp [errW_none, errW_some] <;> rfl) | (simp [*, errW_none, errW_some] <;> rfl), by repeat (with_reducible first | exact HB.out | apply pw_below_drewN | apply below_drew1 | refine below_set ?_ GE414.out | refine below_set ?_ GE415.out | refine below_set ?_ GE416.out | refine below_set ?_ GE424.out | refine below_set ?_ GE437.out)⟩
              · replace c60 := Bool.eq_false_iff.mpr c60
                subst c60
                have H1 : (none) = some r := by rw [if_neg (show ¬ (false = true) by decide)] at H; exact H
                clear H
                have H := H1
                clear H1
                exact absurd H (by simp)
            · replace c58 := Bool.eq_false_iff.mpr c58
              subst c58
              have H1 : ((watchmanlaw08_boards.f kj25).bind fun t445 => (if t445 = true then (if t436 = 0 then (if t443 = 0 then ((watchmanref08_Same.f kj25 t425 t426 t427 t438 t439 t440).bind fun t446 => (some t446)) else (none)) else (none)) else (none))) = some r := by rw [if_neg (show ¬ (false = true) by decide)] at H; exact H
              clear H
              have H := H1
              clear H1
              replace H := Option.bind_eq_some_iff.mp H
              obtain ⟨t445, A640, H⟩ := H
              replace H : (if t445 = true then (if t436 = 0 then (if t443 = 0 then ((watchmanref08_Same.f kj25 t425 t426 t427 t438 t439 t440).bind fun t446 => (some t446)) else (none)) else (none)) else (none)) = some r := H
              have A64 := Aside0.mk A640
              clear A640
              by_cases c65 : t445 = true
              · subst c65
                have H1 : (if t436 = 0 then (if t443 = 0 then ((watchmanref08_Same.f kj25 t425 t426 t427 t438 t439 t440).bind fun t446 => (some t446)) else (none)) else (none)) = some r := by rw [if_pos rfl] at H; exact H
                clear H
                have H := H1
                clear H1
                by_cases c66 : t436 = 0
                · rw [if_pos c66] at H
                  have c66b0 : (t436 == 0) = true := beq_iff_eq.mpr c66
                  have c66b1 : (t436 != 0) = false := bne_eq_false_iff_eq.mpr c66
                  clear c66
                  by_cases c67 : t443 = 0
                  · rw [if_pos c67] at H
                    have c67b0 : (t443 == 0) = true := beq_iff_eq.mpr c67
                    have c67b1 : (t443 != 0) = false := bne_eq_false_iff_eq.mpr c67
                    clear c67
                    replace H := Option.bind_eq_some_iff.mp H
                    obtain ⟨t446, A680, H⟩ := H
                    replace H : (some t446) = some r := H
                    have A68 := Aside0.mk A680
                    clear A680
                    obtain rfl := Option.some.inj H
                    go_wp2_with (first | ((with_reducible refine gate_callee (f := 31) rfl ?_); refine goesL_ (some 61) rfl rfl Try.func31 (by kernel_rfl) rfl #[] rfl (by (try simp only [List.map_toArray, List.map_cons, List.map_nil]); first | done | rfl | (simp only [List.length_drop, List.length_take]; rfl)) ?_; (with_reducible refine (watchmanlaw08_boards.calls kj25  true _ A64.out).mono ?_); rintro e w69 ⟨rfl, hb⟩; refine ⟨_, rfl, ?_⟩; have n0_ := Aside0.mk (Kd.R_below (HO_425002.out) hb); have n1_ := Aside0.mk (Kd.R_below (HO_438002.out) hb); have n2_ := Aside0.mk (blk_below BK414.out hb); have n3_ := Aside0.mk (blk_below BK415.out hb); have n4_ := Aside0.mk (blk_below BK416.out hb); have n5_ := Aside0.mk (blk_below BK424.out hb); have n6_ := Aside0.mk (blk_below BK437.out hb); have n7_ := Aside0.mk (below_step (by repeat (with_reducible first | exact HB.out | apply pw_below_drewN | apply below_drew1 | refine below_set ?_ GE414.out | refine below_set ?_ GE415.out | refine below_set ?_ GE416.out | refine below_set ?_ GE424.out | refine below_set ?_ GE437.out)) hb); clear HO_425002; clear HO_438002; clear BK414; clear BK415; clear BK416; clear BK424; clear BK437; clear HB; have HO_425002 := n0_; have HO_438002 := n1_; have BK414 := n2_; have BK415 := n3_; have BK416 := n4_; have BK424 := n5_; have BK437 := n6_; have HB := n7_; clear n0_ n1_ n2_ n3_ n4_ n5_ n6_ n7_; (try clear hb); (try clear hb2); (try clear hk); (try clear hi); have hnb70 := NB424_414.out; have hnc70 := NB414_424.out; have hnb71 := NB424_415.out; have hnc71 := NB415_424.out; have hnb72 := NB424_416.out; have hnc72 := NB416_424.out; have hnb73 := NB424_437.out; have hnc73 := NB437_424.out; have hcz74_0 : w69.cell? ⟨gb424, 0, none⟩ = some (.int .i64 t425) := (blk_cell BK424.out 0).trans rfl; have hcz74_1 : w69.cell? ⟨gb424, 1, none⟩ = some (.int .i64 t426) := (blk_cell BK424.out 1).trans rfl; have hcz74_2 : w69.cell? ⟨gb424, 2, none⟩ = some (.slice Ao42 t427.length co42) := (blk_cell BK424.out 2).trans rfl; have hfz74_0 := blk_frozen BK424.out 0; have hfz74_1 := blk_frozen BK424.out 1; have hfz74_2 := blk_frozen BK424.out 2; have hnb75 := NB437_414.out; have hnc75 := NB414_437.out; have hnb76 := NB437_415.out; have hnc76 := NB415_437.out; have hnb77 := NB437_416.out; have hnc77 := NB416_437.out; have hcz78_0 : w69.cell? ⟨gb437, 0, none⟩ = some (.int .i64 t438) := (blk_cell BK437.out 0).trans rfl; have hcz78_1 : w69.cell? ⟨gb437, 1, none⟩ = some (.int .i64 t439) := (blk_cell BK437.out 1).trans rfl; have hcz78_2 : w69.cell? ⟨gb437, 2, none⟩ = some (.slice Ao56 t440.length co56) := (blk_cell BK437.out 2).trans rfl; have hfz78_0 := blk_frozen BK437.out 0; have hfz78_1 := blk_frozen BK437.out 1; have hfz78_2 := blk_frozen BK437.out 2) | (go_at_call 25; (with_reducible refine (watchmanref08_Same.calls kj25 t425 t426 _ _ t427 t438 t439 _ _ t440 t446 _ ?side1 ?side2 ?side3 ?side4 A68.out).mono ?_); (case side1 => repeat (first | exact (Kd.R_reads' HO_425002.out).2.2 | (with_reducible refine Kd.C_alloc ?_ _) | (with_reducible refine Kd.C_drewN ?_ _) | (with_reducible refine Kd.C_drew ?_))); (case side2 => exact (Kd.R_reads' HO_425002.out).2.1); (case side3 => repeat (first | exact (Kd.R_reads' HO_438002.out).2.2 | (with_reducible refine Kd.C_alloc ?_ _) | (with_reducible refine Kd.C_drewN ?_ _) | (with_reducible refine Kd.C_drew ?_))); (case side4 => exact (Kd.R_reads' HO_438002.out).2.1); rintro e w79 ⟨rfl, hb⟩; have n0_ := Aside0.mk (Kd.R_below (HO_425002.out) hb); have n1_ := Aside0.mk (Kd.R_below (HO_438002.out) hb); have n2_ := Aside0.mk (blk_below BK414.out hb); have n3_ := Aside0.mk (blk_below BK415.out hb); have n4_ := Aside0.mk (blk_below BK416.out hb); have n5_ := Aside0.mk (blk_below BK424.out hb); have n6_ := Aside0.mk (blk_below BK437.out hb); have n7_ := Aside0.mk (below_step (by repeat (with_reducible first | exact HB.out | apply pw_below_drewN | apply below_drew1 | refine below_set ?_ GE414.out | refine below_set ?_ GE415.out | refine below_set ?_ GE416.out | refine below_set ?_ GE424.out | refine below_set ?_ GE437.out)) hb); clear HO_425002; clear HO_438002; clear BK414; clear BK415; clear BK416; clear BK424; clear BK437; clear HB; have HO_425002 := n0_; have HO_438002 := n1_; have BK414 := n2_; have BK415 := n3_; have BK416 := n4_; have BK424 := n5_; have BK437 := n6_; have HB := n7_; clear n0_ n1_ n2_ n3_ n4_ n5_ n6_ n7_; (try clear hb); (try clear hb2); (try clear hk); (try clear hi)))
                    go_ret
                    exact ⟨by first | rfl | (simp [errW_none, errW_some] <;> rfl) | (simp [*, errW_none, errW_some] <;> rfl), by repeat (with_reducible first | exact HB.out | apply pw_below_drewN | apply below_drew1 | refine below_set ?_ GE414.out | refine below_set ?_ GE415.out | refine below_set ?_ GE416.out | refine below_set ?_ GE424.out | refine below_set ?_ GE437.out)⟩
                  · rw [if_neg c67] at H
                    exact absurd H (by simp)
                · rw [if_neg c66] at H
                  exact absurd H (by simp)
              · replace c65 := Bool.eq_false_iff.mpr c65
                subst c65
                have H1 : (none) = some r := by rw [if_neg (show ¬ (false = true) by decide)] at H; exact H
                clear H
                have H := H1
                clear H1
                exact absurd H (by simp)

end Go.Proofs.Ytcfpbmdndapeaaa.F
