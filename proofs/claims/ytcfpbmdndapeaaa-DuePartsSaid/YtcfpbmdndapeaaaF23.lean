-- Written by a program of this session (xprint.py), out of the translation and of contracts proved by hand.
import Derived.Test.YtcfpbmdndapeaaaF0
import Derived.Test.YtcfpbmdndapeaaaF3
import Derived.Test.YtcfpbmdndapeaaaF12
import Derived.Test.YtcfpbmdndapeaaaF14
import Derived.Test.YtcfpbmdndapeaaaF19
import Derived.Test.YtcfpbmdndapeaaaF21
namespace Go.Proofs.Ytcfpbmdndapeaaa.F
open Go.RowKit Go.Proofs.YtcfpbmdndapeaaaV.PrintWords Go.Proofs.YtcfpbmdndapeaaaV.PrintLast Go.Proofs.YtcfpbmdndapeaaaV.PrintMore
attribute [local go_sem] max2_int min2_int max_two min_two max_three min_three max_four min_four   -- for this text's walks alone
set_option linter.unusedVariables false
set_option linter.unusedSimpArgs false

/-! ### watchmanlaw09_DueParts: function 12 -/
mutual
def watchmanlaw09_DueParts.j0 : Nat → Int → Int → Bool → Int → Int → List (S28) → Option (Bool)
 | 0, _, _, _, _, _, _ => none
 | k + 1, x1, x2, x22, x365000, x365001, x365002 => if x22 = true then (some true) else ((due_Turns.f k x365000 x365001 x365002 x1).bind fun bt366 => ((board_Pass.f k x365000 x365001 x365002 x1).bind fun bt370 => ((due_Turns.f k bt370.1 bt370.2.1 bt370.2.2.1 x2).bind fun bt377 => ((due_Turns.f k x365000 x365001 x365002 x2).bind fun bt381 => (if bt366.2 = 0 then (if bt370.2.2.2 = 0 then (if bt377.2 = 0 then (watchmanlaw09_DueParts.j1 k bt366.1 bt377.1 bt381.1 (bt381.2 != 0)) else (watchmanlaw09_DueParts.j1 k bt366.1 bt377.1 bt381.1 true)) else (watchmanlaw09_DueParts.j1 k bt366.1 bt377.1 bt381.1 true)) else (watchmanlaw09_DueParts.j1 k bt366.1 bt377.1 bt381.1 true))))))
def watchmanlaw09_DueParts.j1 : Nat → List (S65) → List (S65) → List (S65) → Bool → Option (Bool)
 | 0, _, _, _, _ => none
 | k + 1, x7, x11, x13, x60 => if x60 = true then ((watchmanlaw09_coming.f).bind fun t385 => (some t385)) else (if ([] : List (S65)).length + x7.length < 4398046511104 then ((some (([] : List (S65)) ++ x7 : List (S65))).bind fun y386 => (if y386.length + x11.length < 4398046511104 then ((some (y386 ++ x11 : List (S65))).bind fun y389 => ((watchmanlaw09_coming.f).bind fun t392 => (if t392 = true then (if (y389.length : Int) = (x13.length : Int) then ((due_Order.f k y389).bind fun t393 => ((watchmanref09_Same.f k t393 x13).bind fun t396 => (some t396))) else (none)) else (none)))) else (none))) else (none))
end
def watchmanlaw09_DueParts.f (k : Nat) (a0_0 : Int) (a0_1 : Int) (l0_2 : List (S28)) (a1 : Int) (a2 : Int) : Option (Bool) := (watchmanlaw09_far.f a0_0 a0_1 l0_2).bind fun t365 => (if t365 = true then (watchmanlaw09_DueParts.j0 k a1 a2 true a0_0 a0_1 l0_2) else (watchmanlaw09_DueParts.j0 k a1 a2 (decide (a2 < a1)) a0_0 a0_1 l0_2))
theorem watchmanlaw09_DueParts.mono_l : ∀ k, (∀ y0 y1 y2 y3 y4 y5, LeO (watchmanlaw09_DueParts.j0 k y0 y1 y2 y3 y4 y5) (watchmanlaw09_DueParts.j0 (k + 1) y0 y1 y2 y3 y4 y5)) ∧ (∀ y0 y1 y2 y3, LeO (watchmanlaw09_DueParts.j1 k y0 y1 y2 y3) (watchmanlaw09_DueParts.j1 (k + 1) y0 y1 y2 y3))
 | 0 => ⟨fun _ _ _ _ _ _ r h => by simp [watchmanlaw09_DueParts.j0] at h, fun _ _ _ _ r h => by simp [watchmanlaw09_DueParts.j1] at h⟩
 | k + 1 => by
  obtain ⟨ih0, ih1⟩ := watchmanlaw09_DueParts.mono_l k
  refine ⟨?_, ?_⟩
  ·intro y0 y1 y2 y3 y4 y5
   unfold watchmanlaw09_DueParts.j0
   repeat' first
   | (with_reducible exact ih0 _ _ _ _ _ _)
   | (with_reducible exact ih1 _ _ _ _)
   | (with_reducible exact board_Pass.mono _ _ _ _ _)
   | (with_reducible exact due_Order.mono _ _)
   | (with_reducible exact due_Turns.mono _ _ _ _ _)
   | (with_reducible exact watchmanref09_Same.mono _ _ _)
   | (with_reducible exact LeO.refl _)
   | (with_reducible exact LeO.none _)
   | (with_reducible refine LeO.ite ?_ ?_)
   | (with_reducible refine LeO.bind ?_ (fun _ => ?_))
   | exact ih0 _ _ _ _ _ _
   | exact ih1 _ _ _ _
   | exact board_Pass.mono _ _ _ _ _
   | exact due_Order.mono _ _
   | exact due_Turns.mono _ _ _ _ _
   | exact watchmanref09_Same.mono _ _ _
   | exact LeO.none _
   | refine LeO.ite ?_ ?_
   | refine LeO.bind ?_ (fun _ => ?_)
  ·intro y0 y1 y2 y3
   unfold watchmanlaw09_DueParts.j1
   repeat' first
   | (with_reducible exact ih0 _ _ _ _ _ _)
   | (with_reducible exact ih1 _ _ _ _)
   | (with_reducible exact board_Pass.mono _ _ _ _ _)
   | (with_reducible exact due_Order.mono _ _)
   | (with_reducible exact due_Turns.mono _ _ _ _ _)
   | (with_reducible exact watchmanref09_Same.mono _ _ _)
   | (with_reducible exact LeO.refl _)
   | (with_reducible exact LeO.none _)
   | (with_reducible refine LeO.ite ?_ ?_)
   | (with_reducible refine LeO.bind ?_ (fun _ => ?_))
   | exact ih0 _ _ _ _ _ _
   | exact ih1 _ _ _ _
   | exact board_Pass.mono _ _ _ _ _
   | exact due_Order.mono _ _
   | exact due_Turns.mono _ _ _ _ _
   | exact watchmanref09_Same.mono _ _ _
   | exact LeO.none _
   | refine LeO.ite ?_ ?_
   | refine LeO.bind ?_ (fun _ => ?_)
theorem watchmanlaw09_DueParts.mono : ∀ a0 a1 a2 a3 a4 k, LeO (watchmanlaw09_DueParts.f k a0 a1 a2 a3 a4) (watchmanlaw09_DueParts.f (k + 1) a0 a1 a2 a3 a4) := by
 intro a0 a1 a2 a3 a4 k
 obtain ⟨ih0, ih1⟩ := watchmanlaw09_DueParts.mono_l k
 unfold watchmanlaw09_DueParts.f
 repeat' first
   | (with_reducible exact ih0 _ _ _ _ _ _)
   | (with_reducible exact ih1 _ _ _ _)
   | (with_reducible exact board_Pass.mono _ _ _ _ _)
   | (with_reducible exact due_Order.mono _ _)
   | (with_reducible exact due_Turns.mono _ _ _ _ _)
   | (with_reducible exact watchmanref09_Same.mono _ _ _)
   | (with_reducible exact LeO.refl _)
   | (with_reducible exact LeO.none _)
   | (with_reducible refine LeO.ite ?_ ?_)
   | (with_reducible refine LeO.bind ?_ (fun _ => ?_))
   | exact ih0 _ _ _ _ _ _
   | exact ih1 _ _ _ _
   | exact board_Pass.mono _ _ _ _ _
   | exact due_Order.mono _ _
   | exact due_Turns.mono _ _ _ _ _
   | exact watchmanref09_Same.mono _ _ _
   | exact LeO.none _
   | refine LeO.ite ?_ ?_
   | refine LeO.bind ?_ (fun _ => ?_)
set_option maxHeartbeats 8000000 in
set_option maxRecDepth 100000 in
theorem watchmanlaw09_DueParts.calls (k : Nat) (a0_0 : Int) (a0_1 : Int) (A0_2 : Option Addr) (c0_2 : Nat) (l0_2 : List (S28)) (a1 : Int) (a2 : Int) (r : Bool) (w : World) (hr0_2 : Kd.C k28 w A0_2 l0_2.length l0_2) (hc0_2 : l0_2.length ≤ c0_2) (h : watchmanlaw09_DueParts.f k a0_0 a0_1 l0_2 a1 a2 = some r) :
  Calls Try.prog 12 #[.agg #[.int .i64 a0_0, .int .i64 a0_1, .slice A0_2 l0_2.length c0_2], .int .i64 a1, .int .i64 a2] w fun e w' => e = .returned (.bool r) ∧ Below w.heap.size w w' := by
 have hu24 := Try.underlying24
 have HR0_2 := Aside0.mk hr0_2
 have HC0_2 := Aside0.mk hc0_2
 clear hr0_2 hc0_2
 have HB := Aside0.mk (Below.refl w.heap.size w)
 have H : ((watchmanlaw09_far.f a0_0 a0_1 l0_2).bind fun t365 => (if t365 = true then (watchmanlaw09_DueParts.j0 k a1 a2 true a0_0 a0_1 l0_2) else (watchmanlaw09_DueParts.j0 k a1 a2 (decide (a2 < a1)) a0_0 a0_1 l0_2))) = some r := h
 clear h
 have HC4 := Aside0.mk H
 clear H
 go_enter Try.func12, Try.ntmps12
 go_upto_region 1 with (first | ((with_reducible refine gate_dst (N := 3) rfl ?_); (try (refine gate_guard (by rfl) ?_; dsimp only)); refine box_event ?hg (N := 3) ?hd (cs := #[.int .i64 a0_0, .int .i64 a0_1, .slice A0_2 l0_2.length c0_2]) (t := 24) ?hr ?_; (case hd => rfl); (case hg => rfl); (case hr => first | (go_simp; done) | (go_simp; rfl)); intro gb364 hg w5 hbox hb; have BK364 := Aside0.mk (hbox); have GW364 := Aside0.mk ((by rw [hg]; exact (below_size HB.out) : w.heap.size ≤ gb364)); have GE364 := Aside0.mk ((by rw [hg]; exact (below_size HB.out) : w.heap.size ≤ gb364)); replace HB := Aside0.mk (below_step HB.out hb); clear hb hbox hg))
 (try simp only [Act.put, List.setIfInBounds_toArray, List.set_cons_zero, List.set_cons_succ])
 go_cut [22] (fun v22 wc => ∃ (kq : Nat) (x22_3 : Bool), v22 = .bool x22_3 ∧ Aside0 (watchmanlaw09_DueParts.j0 kq a1 a2 x22_3 a0_0 a0_1 l0_2 = some r) ∧ Aside0 (kq ≤ k) ∧ Aside0 (wc.heap[gb364]? = some (.cells #[.int .i64 a0_0, .int .i64 a0_1, (.slice A0_2 l0_2.length c0_2)] 24 (0, 0))) ∧ Aside0 (Below w.heap.size w wc))
 case first =>
  have H := HC4.out
  clear HC4
  replace H := Option.bind_eq_some_iff.mp H
  obtain ⟨t365, A60, H⟩ := H
  try dsimp only at H
  have A6 := Aside0.mk A60
  clear A60
  by_cases c7 : t365 = true
  ·subst c7
   rw [if_pos rfl] at H; try dsimp only at H
   have H' := Aside0.mk H
   clear H
   have hcz8_0 : w5.cell? ⟨gb364, 0, none⟩ = some (.int .i64 a0_0) := (blk_cell BK364.out 0).trans rfl
   have hcz8_1 : w5.cell? ⟨gb364, 1, none⟩ = some (.int .i64 a0_1) := (blk_cell BK364.out 1).trans rfl
   have hcz8_2 : w5.cell? ⟨gb364, 2, none⟩ = some (.slice A0_2 l0_2.length c0_2) := (blk_cell BK364.out 2).trans rfl
   have hfz8_0 := blk_frozen BK364.out 0
   have hfz8_1 := blk_frozen BK364.out 1
   have hfz8_2 := blk_frozen BK364.out 2
   go_wp2_with (first | ((with_reducible refine gate_callee (f := 35) rfl ?_); refine goesL_ (some 17) rfl rfl Try.func35 (by kernel_rfl) rfl #[.agg #[.int .i64 a0_0, .int .i64 a0_1, .slice A0_2 l0_2.length c0_2]] rfl (by (try simp only [List.map_toArray, List.map_cons, List.map_nil]); first | done | rfl | (simp only [List.length_drop, List.length_take]; rfl)) ?_; (with_reducible refine (watchmanlaw09_far.calls a0_0 a0_1 _ _ l0_2 true _ ?side1 ?side2 A6.out).mono ?_); (case side1 => exact (Kd.C_below HR0_2.out HB.out)); (case side2 => exact HC0_2.out); rintro e w9 ⟨rfl, hb⟩; refine ⟨_, rfl, ?_⟩; replace BK364 := bl_ BK364 hb; replace HB := Aside0.mk (below_step (by repeat (with_reducible first | exact HB.out | apply pw_below_drewN | apply below_drew1 | refine below_set ?_ GE364.out)) hb); (try clear hb); (try clear hb2); (try clear hk); (try clear hi)))
   go_meet
   case rel => exact ⟨_, (true), (by first | rfl | (simp; done) | (simp [*]; done)), H', ⟨by first | omega | exact Nat.le_refl _⟩, ⟨by (with_reducible repeat (first | refine blk_drewN ?_ _ | refine blk_drew ?_ | refine blk_alloc ?_ _)); exact BK364.out⟩, ⟨by repeat (with_reducible first | exact HB.out | apply pw_below_drewN | apply below_drew1 | refine below_set ?_ GE364.out)⟩⟩
  ·replace c7 := Bool.eq_false_iff.mpr c7
   subst c7
   rw [if_neg (show ¬ (false = true) by decide)] at H; try dsimp only at H
   have H' := Aside0.mk H
   clear H
   have hcz10_0 : w5.cell? ⟨gb364, 0, none⟩ = some (.int .i64 a0_0) := (blk_cell BK364.out 0).trans rfl
   have hcz10_1 : w5.cell? ⟨gb364, 1, none⟩ = some (.int .i64 a0_1) := (blk_cell BK364.out 1).trans rfl
   have hcz10_2 : w5.cell? ⟨gb364, 2, none⟩ = some (.slice A0_2 l0_2.length c0_2) := (blk_cell BK364.out 2).trans rfl
   have hfz10_0 := blk_frozen BK364.out 0
   have hfz10_1 := blk_frozen BK364.out 1
   have hfz10_2 := blk_frozen BK364.out 2
   go_wp2_with (first | ((with_reducible refine gate_callee (f := 35) rfl ?_); refine goesL_ (some 17) rfl rfl Try.func35 (by kernel_rfl) rfl #[.agg #[.int .i64 a0_0, .int .i64 a0_1, .slice A0_2 l0_2.length c0_2]] rfl (by (try simp only [List.map_toArray, List.map_cons, List.map_nil]); first | done | rfl | (simp only [List.length_drop, List.length_take]; rfl)) ?_; (with_reducible refine (watchmanlaw09_far.calls a0_0 a0_1 _ _ l0_2 false _ ?side1 ?side2 A6.out).mono ?_); (case side1 => exact (Kd.C_below HR0_2.out HB.out)); (case side2 => exact HC0_2.out); rintro e w11 ⟨rfl, hb⟩; refine ⟨_, rfl, ?_⟩; replace BK364 := bl_ BK364 hb; replace HB := Aside0.mk (below_step (by repeat (with_reducible first | exact HB.out | apply pw_below_drewN | apply below_drew1 | refine below_set ?_ GE364.out)) hb); (try clear hb); (try clear hb2); (try clear hk); (try clear hi)))
   go_meet
   case rel => exact ⟨_, (decide (a2 < a1)), (by first | rfl | (simp; done) | (simp [*]; done)), H', ⟨by first | omega | exact Nat.le_refl _⟩, ⟨by (with_reducible repeat (first | refine blk_drewN ?_ _ | refine blk_drew ?_ | refine blk_alloc ?_ _)); exact BK364.out⟩, ⟨by repeat (with_reducible first | exact HB.out | apply pw_below_drewN | apply below_drew1 | refine below_set ?_ GE364.out)⟩⟩
 case rest =>
  clear HC4
  try clear c1; try clear p2; try clear c3; try clear c7; try clear hcz10_0; try clear hcz10_1; try clear hcz10_2; try clear hcz8_0; try clear hcz8_1; try clear hcz8_2; try clear hfz10_0; try clear hfz10_1; try clear hfz10_2; try clear hfz8_0; try clear hfz8_1; try clear hfz8_2
  obtain ⟨kq, x22_3, rfl, HA, HJ3, BK364, HB⟩ := hcut
  cases kq with
  | zero => exact absurd HA.out (by simp [watchmanlaw09_DueParts.j0])
  | succ kj3 =>
   have H := HA.out
   clear HA
   simp only [watchmanlaw09_DueParts.j0] at H
   by_cases c12 : x22_3 = true
   ·subst c12
    rw [if_pos rfl] at H; try dsimp only at H
    obtain rfl := Option.some.inj H
    go_wp2
    go_ret
    exact ⟨by first | rfl | (simp [errW_none, errW_some] <;> rfl) | (simp [*, errW_none, errW_some] <;> rfl), by repeat (with_reducible first | exact HB.out | apply pw_below_drewN | apply below_drew1 | refine below_set ?_ GE364.out)⟩
   ·replace c12 := Bool.eq_false_iff.mpr c12
    subst c12
    rw [if_neg (show ¬ (false = true) by decide)] at H; try dsimp only at H
    replace H := Option.bind_eq_some_iff.mp H
    obtain ⟨⟨t366, t369⟩, A130, H⟩ := H
    try dsimp only at H
    have A13 := Aside0.mk A130
    clear A130
    replace H := Option.bind_eq_some_iff.mp H
    obtain ⟨⟨t370, t371, t372, t375⟩, A140, H⟩ := H
    try dsimp only at H
    have A14 := Aside0.mk A140
    clear A140
    replace H := Option.bind_eq_some_iff.mp H
    obtain ⟨⟨t377, t380⟩, A150, H⟩ := H
    try dsimp only at H
    have A15 := Aside0.mk A150
    clear A150
    replace H := Option.bind_eq_some_iff.mp H
    obtain ⟨⟨t381, t384⟩, A160, H⟩ := H
    try dsimp only at H
    have A16 := Aside0.mk A160
    clear A160
    have HC17 := Aside0.mk H
    clear H
    have hcz18_0 : wc.cell? ⟨gb364, 0, none⟩ = some (.int .i64 a0_0) := (blk_cell BK364.out 0).trans rfl
    have hcz18_1 : wc.cell? ⟨gb364, 1, none⟩ = some (.int .i64 a0_1) := (blk_cell BK364.out 1).trans rfl
    have hcz18_2 : wc.cell? ⟨gb364, 2, none⟩ = some (.slice A0_2 l0_2.length c0_2) := (blk_cell BK364.out 2).trans rfl
    have hfz18_0 := blk_frozen BK364.out 0
    have hfz18_1 := blk_frozen BK364.out 1
    have hfz18_2 := blk_frozen BK364.out 2
    go_upto_region 7 with (first | ((with_reducible refine gate_callee (f := 37) rfl ?_); refine goesL_ (some 26) rfl rfl Try.func37 (by kernel_rfl) rfl #[.agg #[.int .i64 a0_0, .int .i64 a0_1, .slice A0_2 l0_2.length c0_2], .int .i64 a1] rfl (by (try simp only [List.map_toArray, List.map_cons, List.map_nil]); first | done | rfl | (simp only [List.length_drop, List.length_take]; rfl)) ?_; (with_reducible refine (due_Turns.calls kj3 a0_0 a0_1 _ _ l0_2 a1 t366 t369 _ ?side1 ?side2 A13.out).mono ?_); (case side1 => exact (Kd.C_below HR0_2.out HB.out)); (case side2 => exact HC0_2.out); (try clear A13); rintro e w19 ⟨v367, rfl, ho0, hb⟩; refine ⟨_, rfl, ?_⟩; have HO368 := Aside0.mk (Kd.R_lower ho0 (below_size (by repeat (with_reducible first | exact HB.out | apply pw_below_drewN | apply below_drew1 | refine below_set ?_ GE364.out)))); replace BK364 := bl_ BK364 hb; replace HB := Aside0.mk (below_step (by repeat (with_reducible first | exact HB.out | apply pw_below_drewN | apply below_drew1 | refine below_set ?_ GE364.out)) hb); (try clear hb); (try clear hb2); (try clear hk); (try clear hi); (try clear ho0); have hcz20_0 : w19.cell? ⟨gb364, 0, none⟩ = some (.int .i64 a0_0) := (blk_cell BK364.out 0).trans rfl; have hcz20_1 : w19.cell? ⟨gb364, 1, none⟩ = some (.int .i64 a0_1) := (blk_cell BK364.out 1).trans rfl; have hcz20_2 : w19.cell? ⟨gb364, 2, none⟩ = some (.slice A0_2 l0_2.length c0_2) := (blk_cell BK364.out 2).trans rfl; have hfz20_0 := blk_frozen BK364.out 0; have hfz20_1 := blk_frozen BK364.out 1; have hfz20_2 := blk_frozen BK364.out 2) | ((with_reducible refine gate_callee (f := 19) rfl ?_); refine goesL_ (some 32) rfl rfl Try.func19 (by kernel_rfl) rfl #[.agg #[.int .i64 a0_0, .int .i64 a0_1, .slice A0_2 l0_2.length c0_2], .int .i64 a1] rfl (by (try simp only [List.map_toArray, List.map_cons, List.map_nil]); first | done | rfl | (simp only [List.length_drop, List.length_take]; rfl)) ?_; (with_reducible refine (board_Pass.calls kj3 a0_0 a0_1 _ _ l0_2 a1 t370 t371 t372 t375 _ ?side1 ?side2 A14.out).mono ?_); (case side1 => exact (Kd.C_below HR0_2.out HB.out)); (case side2 => exact HC0_2.out); rintro e w21 ⟨v373, rfl, ho0, hb⟩; refine ⟨_, rfl, ?_⟩; replace HO368 := rb_ HO368 hb; have HO374 := Aside0.mk (Kd.R_lower ho0 (below_size (by repeat (with_reducible first | exact HB.out | apply pw_below_drewN | apply below_drew1 | refine below_set ?_ GE364.out)))); replace BK364 := bl_ BK364 hb; replace HB := Aside0.mk (below_step (by repeat (with_reducible first | exact HB.out | apply pw_below_drewN | apply below_drew1 | refine below_set ?_ GE364.out)) hb); (try clear hb); (try clear hb2); (try clear hk); (try clear hi); (try clear ho0)) | ((with_reducible refine gate_dst (N := 9) rfl ?_); (try (refine gate_guard (by rfl) ?_; dsimp only)); refine box_event ?hg (N := 9) ?hd (cs := #[.int .i64 0, .int .i64 0, .slice none 0 0]) (t := 24) ?hr ?_; (case hd => rfl); (case hg => rfl); (case hr => first | (go_simp; done) | (go_simp; rfl)); intro gb376 hg w22 hbox hb; replace HO368 := rb_ HO368 hb; replace HO374 := rb_ HO374 hb; have BK376 := Aside0.mk (hbox); have GW376 := Aside0.mk ((by rw [hg]; exact (below_size (by repeat (with_reducible first | exact HB.out | apply pw_below_drewN | apply below_drew1 | refine below_set ?_ GE364.out))) : w.heap.size ≤ gb376)); have GE376 := Aside0.mk ((by rw [hg]; exact (below_size (by repeat (with_reducible first | exact HB.out | apply pw_below_drewN | apply below_drew1 | refine below_set ?_ GE364.out))) : w.heap.size ≤ gb376)); replace HB := Aside0.mk (below_step (by repeat (with_reducible first | exact HB.out | apply pw_below_drewN | apply below_drew1 | refine below_set ?_ GE364.out)) hb); have NB364_376 := Aside0.mk ((by rw [hg]; exact Nat.ne_of_lt (blk_lt BK364.out) : gb364 ≠ gb376)); have NB376_364 := Aside0.mk ((by rw [hg]; exact Nat.ne_of_gt (blk_lt BK364.out) : gb376 ≠ gb364)); replace BK364 := bl_ BK364 hb; clear hb hbox hg; have hnb23 := NB376_364.out; have hnc23 := NB364_376.out; have hcz24_0 : w22.cell? ⟨gb376, 0, none⟩ = some (.int .i64 0) := (blk_cell BK376.out 0).trans rfl; have hcz24_1 : w22.cell? ⟨gb376, 1, none⟩ = some (.int .i64 0) := (blk_cell BK376.out 1).trans rfl; have hcz24_2 : w22.cell? ⟨gb376, 2, none⟩ = some (.slice none 0 0) := (blk_cell BK376.out 2).trans rfl; have hfz24_0 := blk_frozen BK376.out 0; have hfz24_1 := blk_frozen BK376.out 1; have hfz24_2 := blk_frozen BK376.out 2; obtain ⟨Ao25, co25, eo25⟩ := Kd.R_slice HO374.out; subst eo25) | ((with_reducible refine gate_callee (f := 37) rfl ?_); refine goesL_ (some 38) rfl rfl Try.func37 (by kernel_rfl) rfl #[.agg #[.int .i64 t370, .int .i64 t371, .slice Ao25 t372.length co25], .int .i64 a2] rfl (by (try simp only [List.map_toArray, List.map_cons, List.map_nil]); first | done | rfl | (simp only [List.length_drop, List.length_take]; rfl)) ?_; (with_reducible refine (due_Turns.calls kj3 t370 t371 _ _ t372 a2 t377 t380 _ ?side1 ?side2 A15.out).mono ?_); (case side1 => refine (Kd.R_reads' (e := 28) (base := w.heap.size) (ok := fun k_ => True) (n := t372.length) (c := co25) ?_).2.2; exact (by (with_reducible repeat (first | apply Kd.R_alloc | apply Kd.R_drewN | apply Kd.R_drew)); exact (Kd.R_mono (rf3 (Kd.R_types HO374.out BK376.out (by decide)) (fun _ hk => hk.2) (.int .i64 t370) (.int .i64 t371) (.slice Ao25 t372.length co25)) (fun _ h_ => h_.1)))); (case side2 => exact (Kd.R_reads' HO374.out).2.1); (try clear A15); rintro e w26 ⟨v378, rfl, ho0, hb⟩; refine ⟨_, rfl, ?_⟩; replace HO374 := Aside0.mk (Kd.R_below (by (with_reducible repeat (first | apply Kd.R_alloc | apply Kd.R_drewN | apply Kd.R_drew)); exact (Kd.R_mono (rf3 (Kd.R_types HO374.out BK376.out (by decide)) (fun _ hk => hk.2) (.int .i64 t370) (.int .i64 t371) (.slice Ao25 t372.length co25)) (fun _ h_ => h_.1))) hb); have HO379 := Aside0.mk (Kd.R_lower (Kd.R_new' ho0 (Kd.R_lt (by (with_reducible repeat (first | apply Kd.R_alloc | apply Kd.R_drewN | apply Kd.R_drew)); exact (Kd.R_mono (rf3 (Kd.R_types HO368.out BK376.out (by decide)) (fun _ hk => hk.2) (.int .i64 t370) (.int .i64 t371) (.slice Ao25 t372.length co25)) (fun _ h_ => h_.1))))) (below_size (by repeat (with_reducible first | exact HB.out | apply pw_below_drewN | apply below_drew1 | refine below_set ?_ (Aside0.out (by assumption)))))); replace HO368 := Aside0.mk (Kd.R_elder' (by (with_reducible repeat (first | apply Kd.R_alloc | apply Kd.R_drewN | apply Kd.R_drew)); exact (Kd.R_mono (rf3 (Kd.R_types HO368.out BK376.out (by decide)) (fun _ hk => hk.2) (.int .i64 t370) (.int .i64 t371) (.slice Ao25 t372.length co25)) (fun _ h_ => h_.1))) (Kd.R_base ho0) hb); replace BK364 := Aside0.mk (blk_below (g := gb364) (o := .cells #[.int .i64 a0_0, .int .i64 a0_1, .slice A0_2 l0_2.length c0_2] 24 (0, 0)) (by refine blk_far ?_ NB364_376.out _; refine blk_far ?_ NB364_376.out _; refine blk_far ?_ NB364_376.out _; exact BK364.out) hb); replace BK376 := Aside0.mk (blk_below (g := gb376) (o := .cells #[.int .i64 t370, .int .i64 t371, .slice Ao25 t372.length co25] 24 (0, 0)) (by refine blk_put (cs := #[.int .i64 t370, .int .i64 t371, .slice none 0 0]) ?_ 2 _ rfl; refine blk_put (cs := #[.int .i64 t370, .int .i64 0, .slice none 0 0]) ?_ 1 _ rfl; refine blk_put (cs := #[.int .i64 0, .int .i64 0, .slice none 0 0]) ?_ 0 _ rfl; exact BK376.out) hb); replace HB := Aside0.mk (below_step (by repeat (with_reducible first | exact HB.out | apply pw_below_drewN | apply below_drew1 | refine below_set ?_ (Aside0.out (by assumption)))) hb); (try clear hb); (try clear hb2); (try clear hk); (try clear hi); (try clear ho0); have hcz27_0 : w26.cell? ⟨gb364, 0, none⟩ = some (.int .i64 a0_0) := (blk_cell BK364.out 0).trans rfl; have hcz27_1 : w26.cell? ⟨gb364, 1, none⟩ = some (.int .i64 a0_1) := (blk_cell BK364.out 1).trans rfl; have hcz27_2 : w26.cell? ⟨gb364, 2, none⟩ = some (.slice A0_2 l0_2.length c0_2) := (blk_cell BK364.out 2).trans rfl; have hfz27_0 := blk_frozen BK364.out 0; have hfz27_1 := blk_frozen BK364.out 1; have hfz27_2 := blk_frozen BK364.out 2) | ((with_reducible refine gate_callee (f := 37) rfl ?_); refine goesL_ (some 44) rfl rfl Try.func37 (by kernel_rfl) rfl #[.agg #[.int .i64 a0_0, .int .i64 a0_1, .slice A0_2 l0_2.length c0_2], .int .i64 a2] rfl (by (try simp only [List.map_toArray, List.map_cons, List.map_nil]); first | done | rfl | (simp only [List.length_drop, List.length_take]; rfl)) ?_; (with_reducible refine (due_Turns.calls kj3 a0_0 a0_1 _ _ l0_2 a2 t381 t384 _ ?side1 ?side2 A16.out).mono ?_); (case side1 => exact (Kd.C_below HR0_2.out HB.out)); (case side2 => exact HC0_2.out); (try clear A16); rintro e w28 ⟨v382, rfl, ho0, hb⟩; refine ⟨_, rfl, ?_⟩; replace HO374 := rb_ HO374 hb; have HO383 := Aside0.mk (Kd.R_lower (Kd.R_new' (Kd.R_new' ho0 (Kd.R_lt (HO368.out))) (Kd.R_lt (HO379.out))) (below_size (by repeat (with_reducible first | exact HB.out | apply pw_below_drewN | apply below_drew1 | refine below_set ?_ (Aside0.out (by assumption)))))); replace HO368 := Aside0.mk (Kd.R_elder' (HO368.out) (Kd.R_base ho0) hb); replace HO379 := Aside0.mk (Kd.R_elder' (HO379.out) (Kd.R_base ho0) hb); replace BK364 := bl_ BK364 hb; replace BK376 := bl_ BK376 hb; replace HB := Aside0.mk (below_step (by repeat (with_reducible first | exact HB.out | apply pw_below_drewN | apply below_drew1 | refine below_set ?_ (Aside0.out (by assumption)))) hb); (try clear hb); (try clear hb2); (try clear hk); (try clear hi); (try clear ho0)))
    (try simp only [Act.put, List.setIfInBounds_toArray, List.set_cons_zero, List.set_cons_succ])
    go_cut [60] (fun v60 wc => ∃ (kq : Nat) (x60_16 : Bool), v60 = .bool x60_16 ∧ Aside0 (watchmanlaw09_DueParts.j1 kq t366 t377 t381 x60_16 = some r) ∧ Aside0 (kq ≤ kj3) ∧ Aside0 (Kd.R k65 65 wc w.heap.size (fun k_ => some k_ ≠ (v378 : Value).ownBlock ∧ some k_ ≠ (v382 : Value).ownBlock) v367 t366) ∧ Aside0 (Kd.R k65 65 wc w.heap.size (fun k_ => some k_ ≠ (v367 : Value).ownBlock ∧ some k_ ≠ (v382 : Value).ownBlock) v378 t377) ∧ Aside0 (Kd.R k65 65 wc w.heap.size (fun k_ => some k_ ≠ (v367 : Value).ownBlock ∧ some k_ ≠ (v378 : Value).ownBlock) v382 t381) ∧ Aside0 (Kd.R k28 28 wc w.heap.size (fun _ => True) (.slice Ao25 t372.length co25) t372) ∧ Aside0 (wc.heap[gb364]? = some (.cells #[.int .i64 a0_0, .int .i64 a0_1, (.slice A0_2 l0_2.length c0_2)] 24 (0, 0))) ∧ Aside0 (wc.heap[gb376]? = some (.cells #[.int .i64 t370, .int .i64 t371, (.slice Ao25 t372.length co25)] 24 (0, 0))) ∧ Aside0 (Below w.heap.size w wc))
    case first =>
     have H := HC17.out
     clear HC17
     by_cases c29 : t369 = 0
     ·rw [if_pos c29] at H
      have c29b0 : (t369 == 0) = true := beq_iff_eq.mpr c29
      have c29b1 : (t369 != 0) = false := bne_eq_false_iff_eq.mpr c29
      clear c29
      (first | rw [c29b0] | (simp only [i64_w, i32_w]; rw [c29b0]) | skip)
      by_cases c30 : t375 = 0
      ·rw [if_pos c30] at H
       have c30b0 : (t375 == 0) = true := beq_iff_eq.mpr c30
       have c30b1 : (t375 != 0) = false := bne_eq_false_iff_eq.mpr c30
       clear c30
       by_cases c31 : t380 = 0
       ·rw [if_pos c31] at H
        have c31b0 : (t380 == 0) = true := beq_iff_eq.mpr c31
        have c31b1 : (t380 != 0) = false := bne_eq_false_iff_eq.mpr c31
        clear c31
        have H' := Aside0.mk H
        clear H
        go_wp2
        go_meet
        case rel => exact ⟨_, ((t384 != 0)), (by first | rfl | (simp; done) | (simp [*]; done)), H', ⟨by have := HJ3.out; first | omega | exact Nat.le_refl _⟩, ⟨by (with_reducible repeat (first | apply Kd.R_alloc | apply Kd.R_drewN | apply Kd.R_drew)); exact Kd.R_mono HO368.out (fun _ hk => ⟨hk.1.2, hk.2⟩)⟩, ⟨by (with_reducible repeat (first | apply Kd.R_alloc | apply Kd.R_drewN | apply Kd.R_drew)); exact Kd.R_mono HO379.out (fun _ hk => ⟨hk.1.2, hk.2⟩)⟩, ⟨by (with_reducible repeat (first | apply Kd.R_alloc | apply Kd.R_drewN | apply Kd.R_drew)); exact Kd.R_mono HO383.out (fun _ hk => ⟨hk.1.2, hk.2⟩)⟩, ⟨by (with_reducible repeat (first | apply Kd.R_alloc | apply Kd.R_drewN | apply Kd.R_drew)); exact HO374.out⟩, ⟨by (with_reducible repeat (first | refine blk_drewN ?_ _ | refine blk_drew ?_ | refine blk_alloc ?_ _)); exact BK364.out⟩, ⟨by (with_reducible repeat (first | refine blk_drewN ?_ _ | refine blk_drew ?_ | refine blk_alloc ?_ _)); exact BK376.out⟩, ⟨by repeat (with_reducible first | exact HB.out | apply pw_below_drewN | apply below_drew1 | refine below_set ?_ (Aside0.out (by assumption)))⟩⟩
       ·rw [if_neg c31] at H
        have c31b0 : (t380 == 0) = false := beq_eq_false_iff_ne.mpr c31
        have c31b1 : (t380 != 0) = true := bne_iff_ne.mpr c31
        have H' := Aside0.mk H
        clear H
        go_wp2
        go_meet
        case rel => exact ⟨_, (true), (by first | rfl | (simp; done) | (simp [*]; done)), H', ⟨by have := HJ3.out; first | omega | exact Nat.le_refl _⟩, ⟨by (with_reducible repeat (first | apply Kd.R_alloc | apply Kd.R_drewN | apply Kd.R_drew)); exact Kd.R_mono HO368.out (fun _ hk => ⟨hk.1.2, hk.2⟩)⟩, ⟨by (with_reducible repeat (first | apply Kd.R_alloc | apply Kd.R_drewN | apply Kd.R_drew)); exact Kd.R_mono HO379.out (fun _ hk => ⟨hk.1.2, hk.2⟩)⟩, ⟨by (with_reducible repeat (first | apply Kd.R_alloc | apply Kd.R_drewN | apply Kd.R_drew)); exact Kd.R_mono HO383.out (fun _ hk => ⟨hk.1.2, hk.2⟩)⟩, ⟨by (with_reducible repeat (first | apply Kd.R_alloc | apply Kd.R_drewN | apply Kd.R_drew)); exact HO374.out⟩, ⟨by (with_reducible repeat (first | refine blk_drewN ?_ _ | refine blk_drew ?_ | refine blk_alloc ?_ _)); exact BK364.out⟩, ⟨by (with_reducible repeat (first | refine blk_drewN ?_ _ | refine blk_drew ?_ | refine blk_alloc ?_ _)); exact BK376.out⟩, ⟨by repeat (with_reducible first | exact HB.out | apply pw_below_drewN | apply below_drew1 | refine below_set ?_ (Aside0.out (by assumption)))⟩⟩
      ·rw [if_neg c30] at H
       have c30b0 : (t375 == 0) = false := beq_eq_false_iff_ne.mpr c30
       have c30b1 : (t375 != 0) = true := bne_iff_ne.mpr c30
       have H' := Aside0.mk H
       clear H
       go_wp2
       go_meet
       case rel => exact ⟨_, (true), (by first | rfl | (simp; done) | (simp [*]; done)), H', ⟨by have := HJ3.out; first | omega | exact Nat.le_refl _⟩, ⟨by (with_reducible repeat (first | apply Kd.R_alloc | apply Kd.R_drewN | apply Kd.R_drew)); exact Kd.R_mono HO368.out (fun _ hk => ⟨hk.1.2, hk.2⟩)⟩, ⟨by (with_reducible repeat (first | apply Kd.R_alloc | apply Kd.R_drewN | apply Kd.R_drew)); exact Kd.R_mono HO379.out (fun _ hk => ⟨hk.1.2, hk.2⟩)⟩, ⟨by (with_reducible repeat (first | apply Kd.R_alloc | apply Kd.R_drewN | apply Kd.R_drew)); exact Kd.R_mono HO383.out (fun _ hk => ⟨hk.1.2, hk.2⟩)⟩, ⟨by (with_reducible repeat (first | apply Kd.R_alloc | apply Kd.R_drewN | apply Kd.R_drew)); exact HO374.out⟩, ⟨by (with_reducible repeat (first | refine blk_drewN ?_ _ | refine blk_drew ?_ | refine blk_alloc ?_ _)); exact BK364.out⟩, ⟨by (with_reducible repeat (first | refine blk_drewN ?_ _ | refine blk_drew ?_ | refine blk_alloc ?_ _)); exact BK376.out⟩, ⟨by repeat (with_reducible first | exact HB.out | apply pw_below_drewN | apply below_drew1 | refine below_set ?_ (Aside0.out (by assumption)))⟩⟩
     ·rw [if_neg c29] at H
      have c29b0 : (t369 == 0) = false := beq_eq_false_iff_ne.mpr c29
      have c29b1 : (t369 != 0) = true := bne_iff_ne.mpr c29
      (first | rw [c29b0] | (simp only [i64_w, i32_w]; rw [c29b0]) | skip)
      have H' := Aside0.mk H
      clear H
      go_wp2
      go_meet
      case rel => exact ⟨_, (true), (by first | rfl | (simp; done) | (simp [*]; done)), H', ⟨by have := HJ3.out; first | omega | exact Nat.le_refl _⟩, ⟨by (with_reducible repeat (first | apply Kd.R_alloc | apply Kd.R_drewN | apply Kd.R_drew)); exact Kd.R_mono HO368.out (fun _ hk => ⟨hk.1.2, hk.2⟩)⟩, ⟨by (with_reducible repeat (first | apply Kd.R_alloc | apply Kd.R_drewN | apply Kd.R_drew)); exact Kd.R_mono HO379.out (fun _ hk => ⟨hk.1.2, hk.2⟩)⟩, ⟨by (with_reducible repeat (first | apply Kd.R_alloc | apply Kd.R_drewN | apply Kd.R_drew)); exact Kd.R_mono HO383.out (fun _ hk => ⟨hk.1.2, hk.2⟩)⟩, ⟨by (with_reducible repeat (first | apply Kd.R_alloc | apply Kd.R_drewN | apply Kd.R_drew)); exact HO374.out⟩, ⟨by (with_reducible repeat (first | refine blk_drewN ?_ _ | refine blk_drew ?_ | refine blk_alloc ?_ _)); exact BK364.out⟩, ⟨by (with_reducible repeat (first | refine blk_drewN ?_ _ | refine blk_drew ?_ | refine blk_alloc ?_ _)); exact BK376.out⟩, ⟨by repeat (with_reducible first | exact HB.out | apply pw_below_drewN | apply below_drew1 | refine below_set ?_ (Aside0.out (by assumption)))⟩⟩
    case rest =>
     clear HC17
     try clear c1; try clear c2; try clear p2; try clear c3; try clear c7; try clear c12; try clear c19; try clear c23; try clear c29; try clear c29b0; try clear c29b1; try clear c30; try clear c30b0; try clear c30b1; try clear c31; try clear c31b0; try clear c31b1; try clear hcz10_0; try clear hcz10_1; try clear hcz10_2; try clear hcz18_0; try clear hcz18_1; try clear hcz18_2; try clear hcz20_0; try clear hcz20_1; try clear hcz20_2; try clear hcz24_0; try clear hcz24_1; try clear hcz24_2; try clear hcz27_0; try clear hcz27_1; try clear hcz27_2; try clear hcz8_0; try clear hcz8_1; try clear hcz8_2; try clear hfz10_0; try clear hfz10_1; try clear hfz10_2; try clear hfz18_0; try clear hfz18_1; try clear hfz18_2; try clear hfz20_0; try clear hfz20_1; try clear hfz20_2; try clear hfz24_0; try clear hfz24_1; try clear hfz24_2; try clear hfz27_0; try clear hfz27_1; try clear hfz27_2; try clear hfz8_0; try clear hfz8_1; try clear hfz8_2; try clear p2
     obtain ⟨kq, x60_16, rfl, HA, HJ16, HO_7, HO_11, HO_13, HO_377002, BK364, BK376, HB⟩ := hcut
     cases kq with
     | zero => exact absurd HA.out (by simp [watchmanlaw09_DueParts.j1])
     | succ kj16 =>
      have H := HA.out
      clear HA
      simp only [watchmanlaw09_DueParts.j1] at H
      by_cases c32 : x60_16 = true
      ·subst c32
       rw [if_pos rfl] at H; try dsimp only at H
       replace H := Option.bind_eq_some_iff.mp H
       obtain ⟨t385, A330, H⟩ := H
       try dsimp only at H
       have A33 := Aside0.mk A330
       clear A330
       obtain rfl := Option.some.inj H
       go_wp2_with (first | ((with_reducible refine gate_callee (f := 46) rfl ?_); refine goesL_ (some 61) rfl rfl Try.func46 (by kernel_rfl) rfl #[] rfl (by (try simp only [List.map_toArray, List.map_cons, List.map_nil]); first | done | rfl | (simp only [List.length_drop, List.length_take]; rfl)) ?_; (with_reducible refine (watchmanlaw09_coming.calls  t385 _ A33.out).mono ?_); rintro e w34 ⟨rfl, hb⟩; refine ⟨_, rfl, ?_⟩; replace HO_7 := rb_ HO_7 hb; replace HO_11 := rb_ HO_11 hb; replace HO_13 := rb_ HO_13 hb; replace HO_377002 := rb_ HO_377002 hb; replace BK364 := bl_ BK364 hb; replace BK376 := bl_ BK376 hb; replace HB := Aside0.mk (below_step (by repeat (with_reducible first | exact HB.out | apply pw_below_drewN | apply below_drew1 | refine below_set ?_ (Aside0.out (by assumption)))) hb); (try clear hb); (try clear hb2); (try clear hk); (try clear hi)))
       go_ret
       exact ⟨by first | rfl | (simp [errW_none, errW_some] <;> rfl) | (simp [*, errW_none, errW_some] <;> rfl), by repeat (with_reducible first | exact HB.out | apply pw_below_drewN | apply below_drew1 | refine below_set ?_ (Aside0.out (by assumption)))⟩
      ·replace c32 := Bool.eq_false_iff.mpr c32
       subst c32
       rw [if_neg (show ¬ (false = true) by decide)] at H; try dsimp only at H
       by_cases c35 : ([] : List (S65)).length + t366.length < 4398046511104
       ·rw [if_pos c35] at H
        have LMc35 := Aside0.mk c35
        clear c35
        obtain ⟨y386, hy386⟩ : ∃ y_ : List (S65), y_ = (([] : List (S65)) ++ t366) := ⟨_, rfl⟩
        replace H : (if y386.length + t377.length < 4398046511104 then ((some (y386 ++ t377 : List (S65))).bind fun y389 => ((watchmanlaw09_coming.f).bind fun t392 => (if t392 = true then (if (y389.length : Int) = (t381.length : Int) then ((due_Order.f kj16 y389).bind fun t393 => ((watchmanref09_Same.f kj16 t393 t381).bind fun t396 => (some t396))) else (none)) else (none)))) else (none)) = some r := by first | (rw [hy386]; with_reducible exact H) | (have H2_ := (Option.bind_some _ _).symm.trans H; rw [hy386]; with_reducible exact H2_) | (have H2_ := (Option.bind_some _ _).symm.trans H; with_reducible exact H2_) | with_reducible exact H | (rw [hy386]; exact H) | exact H
        have Ny386 := Aside0.mk hy386
        clear hy386
        by_cases c36 : y386.length + t377.length < 4398046511104
        ·rw [if_pos c36] at H
         have LMc36 := Aside0.mk c36
         clear c36
         obtain ⟨y389, hy389⟩ : ∃ y_ : List (S65), y_ = (y386 ++ t377) := ⟨_, rfl⟩
         replace H : ((watchmanlaw09_coming.f).bind fun t392 => (if t392 = true then (if (y389.length : Int) = (t381.length : Int) then ((due_Order.f kj16 y389).bind fun t393 => ((watchmanref09_Same.f kj16 t393 t381).bind fun t396 => (some t396))) else (none)) else (none))) = some r := by first | (rw [hy389]; with_reducible exact H) | (have H2_ := (Option.bind_some _ _).symm.trans H; rw [hy389]; with_reducible exact H2_) | (have H2_ := (Option.bind_some _ _).symm.trans H; with_reducible exact H2_) | with_reducible exact H | (rw [hy389]; exact H) | exact H
         have Ny389 := Aside0.mk hy389
         clear hy389
         replace H := Option.bind_eq_some_iff.mp H
         obtain ⟨t392, A370, H⟩ := H
         try dsimp only at H
         have A37 := Aside0.mk A370
         clear A370
         by_cases c38 : t392 = true
         ·subst c38
          rw [if_pos rfl] at H; try dsimp only at H
          by_cases c39 : (y389.length : Int) = (t381.length : Int)
          ·rw [if_pos c39] at H
           have c39b0 : ((y389.length : Int) == (t381.length : Int)) = true := beq_iff_eq.mpr c39
           have c39b1 : ((y389.length : Int) != (t381.length : Int)) = false := bne_eq_false_iff_eq.mpr c39
           have c39b2 : (y389.length == t381.length) = true := by first | simpa using c39 | (simp at c39 ⊢; omega)
           clear c39
           replace H := Option.bind_eq_some_iff.mp H
           obtain ⟨t393, A400, H⟩ := H
           try dsimp only at H
           have A40 := Aside0.mk A400
           clear A400
           replace H := Option.bind_eq_some_iff.mp H
           obtain ⟨t396, A410, H⟩ := H
           try dsimp only at H
           have A41 := Aside0.mk A410
           clear A410
           obtain rfl := Option.some.inj H
           obtain ⟨Ao43, co43, eo43⟩ := Kd.R_slice HO_7.out
           subst eo43
           go_wp2_with (first | ((with_reducible refine gate_builtin (b := .append) (xs := #[.tmp 62, .tmp 63]) rfl ?_); (try (refine gate_guard (by rfl) ?_; dsimp only)); at_builtin; refine Kd.R_append_rows k65 (w0 := w) w.heap.size rfl (.tmp 62) (.tmp 63) 53 65 (.agg #[(.int .i64 0), (.int .i64 0), (.int .i64 0), (.int .i64 0)]) 32 rfl Try.underlying53 info65 rfl (by decide) (by omega) (.slice none 0 0) ([] : List (S65)) t366 _ _ _ (fun k_ => some k_ ≠ (.slice Ao43 t366.length co43 : Value).ownBlock ∧ some k_ ≠ (v378 : Value).ownBlock ∧ some k_ ≠ (v382 : Value).ownBlock) (fun _ => False) rfl rfl ?aO ?aR (fun _ _ h => h) (fun _ h => h.elim) ?aF ?aB ?aS ?aL ?_; (case aR => repeat (first | exact (Kd.R_reads' HO_7.out).2.2 | (with_reducible refine Kd.C_alloc ?_ _) | (with_reducible refine Kd.C_drewN ?_ _) | (with_reducible refine Kd.C_drew ?_))); (case aB => exact (by repeat (with_reducible first | exact HB.out | apply pw_below_drewN | apply below_drew1 | refine below_set ?_ (Aside0.out (by assumption))))); (case aF => exact (fun k_ hk => ⟨Kd.fresh' (Kd.R_lt (HO_7.out)) k_ hk, Kd.fresh' (Kd.R_lt (HO_11.out)) k_ hk, Kd.fresh' (Kd.R_lt (HO_13.out)) k_ hk⟩)); (case aO => exact ((Kd.R_nil _ _ _ _ (fun k_ => some k_ ≠ (.slice Ao43 t366.length co43 : Value).ownBlock ∧ some k_ ≠ (v378 : Value).ownBlock ∧ some k_ ≠ (v382 : Value).ownBlock)))); (case aS => exact (below_size (by repeat (with_reducible first | exact HB.out | apply pw_below_drewN | apply below_drew1 | refine below_set ?_ (Aside0.out (by assumption)))))); (case aL => have := LMc35.out; omega); intro v387 w42 ho hb hg hat; rw [← Ny386.out] at ho; replace HO_7 := Aside0.mk (Kd.R_after (Kd.R_apart_nil (HO_7.out)) hg hat); replace HO_11 := Aside0.mk (Kd.R_after (Kd.R_apart_nil (HO_11.out)) hg hat); replace HO_13 := Aside0.mk (Kd.R_after (Kd.R_apart_nil (HO_13.out)) hg hat); replace HO_377002 := Aside0.mk (Kd.R_grown (HO_377002.out) hg (fun _ _ => by simp [Value.ownBlock])); replace BK364 := Aside0.mk (blk_grown (g := gb364) (o := .cells #[.int .i64 a0_0, .int .i64 a0_1, .slice A0_2 l0_2.length c0_2] 24 (0, 0)) BK364.out hg (by simp [Value.ownBlock])); replace BK376 := Aside0.mk (blk_grown (g := gb376) (o := .cells #[.int .i64 t370, .int .i64 t371, .slice Ao25 t372.length co25] 24 (0, 0)) BK376.out hg (by simp [Value.ownBlock])); replace HB := Aside0.mk (hb); have HO388 := Aside0.mk (ho); clear ho hb hg hat; obtain ⟨Ao45, co45, eo45⟩ := Kd.R_slice HO_11.out; subst eo45) | ((with_reducible refine gate_builtin (b := .append) (xs := #[.tmp 65, .tmp 66]) rfl ?_); (try (refine gate_guard (by rfl) ?_; dsimp only)); at_builtin; refine Kd.R_append_rows k65 (w0 := w) w.heap.size rfl (.tmp 65) (.tmp 66) 53 65 (.agg #[(.int .i64 0), (.int .i64 0), (.int .i64 0), (.int .i64 0)]) 32 rfl Try.underlying53 info65 rfl (by decide) (by omega) v387 y386 t377 _ _ _ (fun k_ => some k_ ≠ (.slice Ao43 t366.length co43 : Value).ownBlock ∧ some k_ ≠ (.slice Ao45 t377.length co45 : Value).ownBlock ∧ some k_ ≠ (v382 : Value).ownBlock) (fun _ => False) rfl rfl ?aO ?aR (fun _ _ h => h) (fun _ h => h.elim) ?aF ?aB ?aS ?aL ?_; (case aR => repeat (first | exact (Kd.R_reads' HO_11.out).2.2 | (with_reducible refine Kd.C_alloc ?_ _) | (with_reducible refine Kd.C_drewN ?_ _) | (with_reducible refine Kd.C_drew ?_))); (case aB => exact (by repeat (with_reducible first | exact HB.out | apply pw_below_drewN | apply below_drew1 | refine below_set ?_ (Aside0.out (by assumption))))); (case aF => exact (fun k_ hk => ⟨Kd.fresh' (Kd.R_lt (HO_7.out)) k_ hk, Kd.fresh' (Kd.R_lt (HO_11.out)) k_ hk, Kd.fresh' (Kd.R_lt (HO_13.out)) k_ hk⟩)); (case aO => exact (HO388.out)); (case aS => exact (below_size (by repeat (with_reducible first | exact HB.out | apply pw_below_drewN | apply below_drew1 | refine below_set ?_ (Aside0.out (by assumption)))))); (case aL => have := LMc36.out; omega); intro v390 w44 ho hb hg hat; rw [← Ny389.out] at ho; replace HO_7 := Aside0.mk (Kd.R_after (ok := (fun k_ => some k_ ≠ (.slice Ao45 t377.length co45 : Value).ownBlock ∧ some k_ ≠ (v382 : Value).ownBlock)) (HO_7.out) hg hat); replace HO_11 := Aside0.mk (Kd.R_after (ok := (fun k_ => some k_ ≠ (.slice Ao43 t366.length co43 : Value).ownBlock ∧ some k_ ≠ (v382 : Value).ownBlock)) (HO_11.out) hg hat); replace HO_13 := Aside0.mk (Kd.R_after (ok := (fun k_ => some k_ ≠ (.slice Ao43 t366.length co43 : Value).ownBlock ∧ some k_ ≠ (.slice Ao45 t377.length co45 : Value).ownBlock)) (HO_13.out) hg hat); replace HO_377002 := Aside0.mk (Kd.R_over' (HO_377002.out) (Kd.R_typed (HO388.out)) (by decide) hg); replace BK364 := Aside0.mk (blk_grown (g := gb364) (o := .cells #[.int .i64 a0_0, .int .i64 a0_1, .slice A0_2 l0_2.length c0_2] 24 (0, 0)) BK364.out hg (Kd.R_ne HO388.out BK364.out (by decide))); replace BK376 := Aside0.mk (blk_grown (g := gb376) (o := .cells #[.int .i64 t370, .int .i64 t371, .slice Ao25 t372.length co25] 24 (0, 0)) BK376.out hg (Kd.R_ne HO388.out BK376.out (by decide))); replace HB := Aside0.mk (hb); have HO391 := Aside0.mk (ho); clear HO388; clear ho hb hg hat) | ((with_reducible refine gate_callee (f := 46) rfl ?_); refine goesL_ (some 68) rfl rfl Try.func46 (by kernel_rfl) rfl #[] rfl (by (try simp only [List.map_toArray, List.map_cons, List.map_nil]); first | done | rfl | (simp only [List.length_drop, List.length_take]; rfl)) ?_; (with_reducible refine (watchmanlaw09_coming.calls  true _ A37.out).mono ?_); rintro e w46 ⟨rfl, hb⟩; refine ⟨_, rfl, ?_⟩; replace HO_7 := rb_ HO_7 hb; replace HO_11 := rb_ HO_11 hb; replace HO_13 := rb_ HO_13 hb; replace HO_377002 := rb_ HO_377002 hb; replace HO391 := rb_ HO391 hb; replace BK364 := bl_ BK364 hb; replace BK376 := bl_ BK376 hb; replace HB := Aside0.mk (below_step (by repeat (with_reducible first | exact HB.out | apply pw_below_drewN | apply below_drew1 | refine below_set ?_ (Aside0.out (by assumption)))) hb); (try clear hb); (try clear hb2); (try clear hk); (try clear hi); obtain ⟨Ao47, co47, eo47⟩ := Kd.R_slice HO391.out; subst eo47; obtain ⟨Ao48, co48, eo48⟩ := Kd.R_slice HO_13.out; subst eo48) | (go_at_call 47; (with_reducible refine (due_Order.calls kj16 _ _ y389 t393 _ ?side1 ?side2 A40.out).mono ?_); (case side1 => repeat (first | exact (Kd.R_reads' HO391.out).2.2 | (with_reducible refine Kd.C_alloc ?_ _) | (with_reducible refine Kd.C_drewN ?_ _) | (with_reducible refine Kd.C_drew ?_))); (case side2 => exact (Kd.R_reads' HO391.out).2.1); rintro e w49 ⟨v394, rfl, ho0, hb⟩; replace HO_377002 := rb_ HO_377002 hb; have HO395 := Aside0.mk (Kd.R_lower (Kd.R_new' (Kd.R_new' (Kd.R_new' (Kd.R_new' ho0 (Kd.R_lt (HO_7.out))) (Kd.R_lt (HO_11.out))) (Kd.R_lt (HO_13.out))) (Kd.R_lt (HO391.out))) (below_size (by repeat (with_reducible first | exact HB.out | apply pw_below_drewN | apply below_drew1 | refine below_set ?_ (Aside0.out (by assumption)))))); replace HO_7 := Aside0.mk (Kd.R_elder' (HO_7.out) (Kd.R_base ho0) hb); replace HO_11 := Aside0.mk (Kd.R_elder' (HO_11.out) (Kd.R_base ho0) hb); replace HO_13 := Aside0.mk (Kd.R_elder' (HO_13.out) (Kd.R_base ho0) hb); replace HO391 := Aside0.mk (Kd.R_elder' (HO391.out) (Kd.R_base ho0) hb); replace BK364 := bl_ BK364 hb; replace BK376 := bl_ BK376 hb; replace HB := Aside0.mk (below_step (by repeat (with_reducible first | exact HB.out | apply pw_below_drewN | apply below_drew1 | refine below_set ?_ (Aside0.out (by assumption)))) hb); (try clear hb); (try clear hb2); (try clear hk); (try clear hi); (try clear ho0); obtain ⟨Ao50, co50, eo50⟩ := Kd.R_slice HO395.out; subst eo50) | (go_at_call 45; (with_reducible refine (watchmanref09_Same.calls kj16 _ _ t393 _ _ t381 t396 _ ?side1 ?side2 ?side3 ?side4 A41.out).mono ?_); (case side1 => repeat (first | exact (Kd.R_reads' HO395.out).2.2 | (with_reducible refine Kd.C_alloc ?_ _) | (with_reducible refine Kd.C_drewN ?_ _) | (with_reducible refine Kd.C_drew ?_))); (case side2 => exact (Kd.R_reads' HO395.out).2.1); (case side3 => repeat (first | exact (Kd.R_reads' HO_13.out).2.2 | (with_reducible refine Kd.C_alloc ?_ _) | (with_reducible refine Kd.C_drewN ?_ _) | (with_reducible refine Kd.C_drew ?_))); (case side4 => exact (Kd.R_reads' HO_13.out).2.1); rintro e w' ⟨rfl, ⟨nd, rfl⟩⟩))
           go_ret
           exact ⟨by first | rfl | (simp [errW_none, errW_some] <;> rfl) | (simp [*, errW_none, errW_some] <;> rfl), by repeat (with_reducible first | exact HB.out | apply pw_below_drewN | apply below_drew1 | refine below_set ?_ (Aside0.out (by assumption)))⟩
          ·rw [if_neg c39] at H
           exact absurd H (by simp)
         ·replace c38 := Bool.eq_false_iff.mpr c38
          subst c38
          rw [if_neg (show ¬ (false = true) by decide)] at H; try dsimp only at H
          exact absurd H (by simp)
        ·rw [if_neg c36] at H
         exact absurd H (by simp)
       ·rw [if_neg c35] at H
        exact absurd H (by simp)

end Go.Proofs.Ytcfpbmdndapeaaa.F
