-- Written by a program of this session (xprint.py), out of the translation and of contracts proved by hand.
import Derived.Test.YtcfpbmdndapeaaaF0
import Derived.Test.YtcfpbmdndapeaaaF1
import Derived.Test.YtcfpbmdndapeaaaF3
import Derived.Test.YtcfpbmdndapeaaaF13
import Derived.Test.YtcfpbmdndapeaaaF14
import Derived.Test.YtcfpbmdndapeaaaF19
namespace Go.Proofs.Ytcfpbmdndapeaaa.F
open Go.RowKit Go.Proofs.YtcfpbmdndapeaaaV.PrintWords Go.Proofs.YtcfpbmdndapeaaaV.PrintLast Go.Proofs.YtcfpbmdndapeaaaV.PrintMore
attribute [local go_sem] max2_int min2_int max_two min_two max_three min_three max_four min_four   -- for this text's walks alone
set_option linter.unusedVariables false
set_option linter.unusedSimpArgs false

attribute [local go_sem high] eqA26
/-! ### watchmanlaw09_DueNext: function 9 -/
def watchmanlaw09_DueNext.j0 : Nat → Int → List (S65) → Bool → Int → Int → Int → Int → Int → Int → Option (Bool)
 | 0, _, _, _, _, _, _, _, _, _ => none
 | k + 1, x5, x7, x66, x314000, x314001, x314002, x314003, x314004, x314005 => if x66 = true then (none) else ((watchmanlaw09_coming.f).bind fun t314 => (if t314 = true then (if (x7.length : Int) = 0 then (some true) else (if 0 < (x7.length : Int) then (if ((rd_T65 x7 0).f0) = x5 then (some (((rd_T65 x7 0).f1.f0) == x314000 && (((rd_T65 x7 0).f1.f1) == x314001))) else (none)) else (none))) else (none)))
def watchmanlaw09_DueNext.f (k : Nat) (a0_0 : Int) (a0_1 : Int) (l0_2 : List (S28)) (a1 : Int) : Option (Bool) := (watchmanlaw09_far.f a0_0 a0_1 l0_2).bind fun t297 => (if t297 = true then (some true) else ((due_Next.f k a0_0 a0_1 l0_2).bind fun bt298 => ((due_Turns.f k a0_0 a0_1 l0_2 a1).bind fun bt300 => (if bt300.2 = 0 then (if bt298.2 = true then ((due_First.f k l0_2).bind fun bt306 => (if bt306.2.2.2.2.2.2 = true then (if bt306.2.2.2.2.2.1 = bt298.1 then (watchmanlaw09_DueNext.j0 k bt298.1 bt300.1 ((decide ((bt300.1.length : Int) > 0)) != (decide (bt298.1 ≤ a1))) bt306.1 bt306.2.1 bt306.2.2.1 bt306.2.2.2.1 bt306.2.2.2.2.1 bt306.2.2.2.2.2.1) else (none)) else (none))) else ((watchmanlaw09_coming.f).bind fun t305 => (if t305 = true then (if bt298.1 = 0 then (some ((bt300.1.length : Int) == 0)) else (none)) else (none)))) else ((watchmanlaw09_coming.f).bind fun t304 => (if t304 = true then (some ((bt300.1.length : Int) == 0)) else (none)))))))
theorem watchmanlaw09_DueNext.mono_l : ∀ k, (∀ y0 y1 y2 y3 y4 y5 y6 y7 y8, LeO (watchmanlaw09_DueNext.j0 k y0 y1 y2 y3 y4 y5 y6 y7 y8) (watchmanlaw09_DueNext.j0 (k + 1) y0 y1 y2 y3 y4 y5 y6 y7 y8))
 | 0 => fun _ _ _ _ _ _ _ _ _ r h => by simp [watchmanlaw09_DueNext.j0] at h
 | k + 1 => by
  have ih0 := watchmanlaw09_DueNext.mono_l k
  ·intro y0 y1 y2 y3 y4 y5 y6 y7 y8
   unfold watchmanlaw09_DueNext.j0
   repeat' first
   | (with_reducible exact ih0 _ _ _ _ _ _ _ _ _)
   | (with_reducible exact due_First.mono _ _)
   | (with_reducible exact due_Next.mono _ _ _ _)
   | (with_reducible exact due_Turns.mono _ _ _ _ _)
   | (with_reducible exact LeO.refl _)
   | (with_reducible exact LeO.none _)
   | (with_reducible refine LeO.ite ?_ ?_)
   | (with_reducible refine LeO.bind ?_ (fun _ => ?_))
   | exact ih0 _ _ _ _ _ _ _ _ _
   | exact due_First.mono _ _
   | exact due_Next.mono _ _ _ _
   | exact due_Turns.mono _ _ _ _ _
   | exact LeO.none _
   | refine LeO.ite ?_ ?_
   | refine LeO.bind ?_ (fun _ => ?_)
theorem watchmanlaw09_DueNext.mono : ∀ a0 a1 a2 a3 k, LeO (watchmanlaw09_DueNext.f k a0 a1 a2 a3) (watchmanlaw09_DueNext.f (k + 1) a0 a1 a2 a3) := by
 intro a0 a1 a2 a3 k
 have ih0 := watchmanlaw09_DueNext.mono_l k
 unfold watchmanlaw09_DueNext.f
 repeat' first
   | (with_reducible exact ih0 _ _ _ _ _ _ _ _ _)
   | (with_reducible exact due_First.mono _ _)
   | (with_reducible exact due_Next.mono _ _ _ _)
   | (with_reducible exact due_Turns.mono _ _ _ _ _)
   | (with_reducible exact LeO.refl _)
   | (with_reducible exact LeO.none _)
   | (with_reducible refine LeO.ite ?_ ?_)
   | (with_reducible refine LeO.bind ?_ (fun _ => ?_))
   | exact ih0 _ _ _ _ _ _ _ _ _
   | exact due_First.mono _ _
   | exact due_Next.mono _ _ _ _
   | exact due_Turns.mono _ _ _ _ _
   | exact LeO.none _
   | refine LeO.ite ?_ ?_
   | refine LeO.bind ?_ (fun _ => ?_)
def watchmanlaw09_DueNext.T12 : Bool × List (List Nat × List Nat) := (true, [([], []), ([0, 0], [0]), ([1], [1]), ([2, 1], [1, 2]), ([3, 1], [1, 3]), ([4, 1, 1], [1, 4]), ([5], [5]), ([6, 5], [5, 6]), ([7, 5], [5, 7]), ([8, 5], [5, 8]), ([5], [5]), ([9, 10, 5], [5, 9, 10]), ([11, 5, 5], [5, 11]), ([12], [12]), ([13, 12], [12, 13]), ([14, 12], [12, 14]), ([15, 12], [12, 15]), ([12], [12]), ([17, 12], [12, 17]), ([16, 18, 12], [12, 16, 18]), ([12, 19, 5], [5, 12, 19]), ([5, 20, 1], [1, 5, 20]), ([1, 21], [1, 21]), ([22, 12, 0, 1, 2, 3, 4, 5, 6, 7, 8, 9, 10, 11, 12, 13, 14, 15, 16, 17, 18, 19, 20, 21, 22], [22])])
def watchmanlaw09_DueNext.B12 : List Nat := [0, 1, 3, 7, 15, 31, 63, 127, 255, 511, 63, 2047, 4095, 8191, 16383, 32767, 65535, 8191, 139263, 524287, 1048575, 2097151, 4194303, 8388607]
theorem watchmanlaw09_DueNext.tab12 : rtab .any (opsOf Try.f9 12) = watchmanlaw09_DueNext.T12 := by kernel_rfl
theorem watchmanlaw09_DueNext.bits12 : waitsOk watchmanlaw09_DueNext.T12.2 watchmanlaw09_DueNext.B12 = true := by kernel_rfl
set_option maxHeartbeats 8000000 in
set_option maxRecDepth 100000 in
theorem watchmanlaw09_DueNext.calls (k : Nat) (a0_0 : Int) (a0_1 : Int) (A0_2 : Option Addr) (c0_2 : Nat) (l0_2 : List (S28)) (a1 : Int) (r : Bool) (w : World) (hr0_2 : Kd.C k28 w A0_2 l0_2.length l0_2) (hc0_2 : l0_2.length ≤ c0_2) (h : watchmanlaw09_DueNext.f k a0_0 a0_1 l0_2 a1 = some r) :
  Calls Try.prog 9 #[.agg #[.int .i64 a0_0, .int .i64 a0_1, .slice A0_2 l0_2.length c0_2], .int .i64 a1] w fun e w' => e = .returned (.bool r) ∧ Below w.heap.size w w' := by
 have hu24 := Try.underlying24
 have hu28 := Try.underlying28
 have hu26 := Try.underlying26
 have HR0_2 := Aside0.mk hr0_2
 have HC0_2 := Aside0.mk hc0_2
 clear hr0_2 hc0_2
 have HB := Aside0.mk (Below.refl w.heap.size w)
 have H : ((watchmanlaw09_far.f a0_0 a0_1 l0_2).bind fun t297 => (if t297 = true then (some true) else ((due_Next.f k a0_0 a0_1 l0_2).bind fun bt298 => ((due_Turns.f k a0_0 a0_1 l0_2 a1).bind fun bt300 => (if bt300.2 = 0 then (if bt298.2 = true then ((due_First.f k l0_2).bind fun bt306 => (if bt306.2.2.2.2.2.2 = true then (if bt306.2.2.2.2.2.1 = bt298.1 then (watchmanlaw09_DueNext.j0 k bt298.1 bt300.1 ((decide ((bt300.1.length : Int) > 0)) != (decide (bt298.1 ≤ a1))) bt306.1 bt306.2.1 bt306.2.2.1 bt306.2.2.2.1 bt306.2.2.2.2.1 bt306.2.2.2.2.2.1) else (none)) else (none))) else ((watchmanlaw09_coming.f).bind fun t305 => (if t305 = true then (if bt298.1 = 0 then (some ((bt300.1.length : Int) == 0)) else (none)) else (none)))) else ((watchmanlaw09_coming.f).bind fun t304 => (if t304 = true then (some ((bt300.1.length : Int) == 0)) else (none)))))))) = some r := h
 clear h
 replace H := Option.bind_eq_some_iff.mp H
 obtain ⟨t297, A30, H⟩ := H
 try dsimp only at H
 have A3 := Aside0.mk A30
 clear A30
 by_cases c4 : t297 = true
 ·subst c4
  rw [if_pos rfl] at H; try dsimp only at H
  obtain rfl := Option.some.inj H
  go_enter Try.func9, Try.ntmps9
  go_wp2_with (first | ((with_reducible refine gate_dst (N := 2) rfl ?_); (try (refine gate_guard (by rfl) ?_; dsimp only)); refine box_event ?hg (N := 2) ?hd (cs := #[.int .i64 a0_0, .int .i64 a0_1, .slice A0_2 l0_2.length c0_2]) (t := 24) ?hr ?_; (case hd => rfl); (case hg => rfl); (case hr => first | (go_simp; done) | (go_simp; rfl)); intro gb296 hg w5 hbox hb; have BK296 := Aside0.mk (hbox); have GW296 := Aside0.mk ((by rw [hg]; exact (below_size HB.out) : w.heap.size ≤ gb296)); have GE296 := Aside0.mk ((by rw [hg]; exact (below_size HB.out) : w.heap.size ≤ gb296)); replace HB := Aside0.mk (below_step HB.out hb); clear hb hbox hg; have hcz6_0 : w5.cell? ⟨gb296, 0, none⟩ = some (.int .i64 a0_0) := (blk_cell BK296.out 0).trans rfl; have hcz6_1 : w5.cell? ⟨gb296, 1, none⟩ = some (.int .i64 a0_1) := (blk_cell BK296.out 1).trans rfl; have hcz6_2 : w5.cell? ⟨gb296, 2, none⟩ = some (.slice A0_2 l0_2.length c0_2) := (blk_cell BK296.out 2).trans rfl; have hfz6_0 := blk_frozen BK296.out 0; have hfz6_1 := blk_frozen BK296.out 1; have hfz6_2 := blk_frozen BK296.out 2) | ((with_reducible refine gate_callee (f := 35) rfl ?_); refine goesL_ (some 12) rfl rfl Try.func35 (by kernel_rfl) rfl #[.agg #[.int .i64 a0_0, .int .i64 a0_1, .slice A0_2 l0_2.length c0_2]] rfl (by (try simp only [List.map_toArray, List.map_cons, List.map_nil]); first | done | rfl | (simp only [List.length_drop, List.length_take]; rfl)) ?_; (with_reducible refine (watchmanlaw09_far.calls a0_0 a0_1 _ _ l0_2 true _ ?side1 ?side2 A3.out).mono ?_); (case side1 => exact (Kd.C_below HR0_2.out HB.out)); (case side2 => exact HC0_2.out); rintro e w7 ⟨rfl, hb⟩; refine ⟨_, rfl, ?_⟩; replace BK296 := bl_ BK296 hb; replace HB := Aside0.mk (below_step (by repeat (with_reducible first | exact HB.out | apply pw_below_drewN | apply below_drew1 | refine below_set ?_ GE296.out)) hb); (try clear hb); (try clear hb2); (try clear hk); (try clear hi)))
  go_ret
  exact ⟨by first | rfl | (simp [errW_none, errW_some] <;> rfl) | (simp [*, errW_none, errW_some] <;> rfl), by repeat (with_reducible first | exact HB.out | apply pw_below_drewN | apply below_drew1 | refine below_set ?_ GE296.out)⟩
 ·replace c4 := Bool.eq_false_iff.mpr c4
  subst c4
  rw [if_neg (show ¬ (false = true) by decide)] at H; try dsimp only at H
  replace H := Option.bind_eq_some_iff.mp H
  obtain ⟨⟨t298, t299⟩, A80, H⟩ := H
  try dsimp only at H
  have A8 := Aside0.mk A80
  clear A80
  replace H := Option.bind_eq_some_iff.mp H
  obtain ⟨⟨t300, t303⟩, A90, H⟩ := H
  try dsimp only at H
  have A9 := Aside0.mk A90
  clear A90
  by_cases c10 : t303 = 0
  ·rw [if_pos c10] at H
   have c10b0 : (t303 == 0) = true := beq_iff_eq.mpr c10
   have c10b1 : (t303 != 0) = false := bne_eq_false_iff_eq.mpr c10
   clear c10
   by_cases c11 : t299 = true
   ·subst c11
    rw [if_pos rfl] at H; try dsimp only at H
    replace H := Option.bind_eq_some_iff.mp H
    obtain ⟨⟨t306, t307, t308, t309, t310, t311, t312⟩, A120, H⟩ := H
    try dsimp only at H
    have A12 := Aside0.mk A120
    clear A120
    have HC13 := Aside0.mk H
    clear H
    go_enter Try.func9, Try.ntmps9
    go_upto_region 10 with (first | ((with_reducible refine gate_dst (N := 2) rfl ?_); (try (refine gate_guard (by rfl) ?_; dsimp only)); refine box_event ?hg (N := 2) ?hd (cs := #[.int .i64 a0_0, .int .i64 a0_1, .slice A0_2 l0_2.length c0_2]) (t := 24) ?hr ?_; (case hd => rfl); (case hg => rfl); (case hr => first | (go_simp; done) | (go_simp; rfl)); intro gb296 hg w14 hbox hb; have BK296 := Aside0.mk (hbox); have GW296 := Aside0.mk ((by rw [hg]; exact (below_size HB.out) : w.heap.size ≤ gb296)); have GE296 := Aside0.mk ((by rw [hg]; exact (below_size HB.out) : w.heap.size ≤ gb296)); replace HB := Aside0.mk (below_step HB.out hb); clear hb hbox hg; have hcz15_0 : w14.cell? ⟨gb296, 0, none⟩ = some (.int .i64 a0_0) := (blk_cell BK296.out 0).trans rfl; have hcz15_1 : w14.cell? ⟨gb296, 1, none⟩ = some (.int .i64 a0_1) := (blk_cell BK296.out 1).trans rfl; have hcz15_2 : w14.cell? ⟨gb296, 2, none⟩ = some (.slice A0_2 l0_2.length c0_2) := (blk_cell BK296.out 2).trans rfl; have hfz15_0 := blk_frozen BK296.out 0; have hfz15_1 := blk_frozen BK296.out 1; have hfz15_2 := blk_frozen BK296.out 2) | ((with_reducible refine gate_callee (f := 35) rfl ?_); refine goesL_ (some 12) rfl rfl Try.func35 (by kernel_rfl) rfl #[.agg #[.int .i64 a0_0, .int .i64 a0_1, .slice A0_2 l0_2.length c0_2]] rfl (by (try simp only [List.map_toArray, List.map_cons, List.map_nil]); first | done | rfl | (simp only [List.length_drop, List.length_take]; rfl)) ?_; (with_reducible refine (watchmanlaw09_far.calls a0_0 a0_1 _ _ l0_2 false _ ?side1 ?side2 A3.out).mono ?_); (case side1 => exact (Kd.C_below HR0_2.out HB.out)); (case side2 => exact HC0_2.out); rintro e w16 ⟨rfl, hb⟩; refine ⟨_, rfl, ?_⟩; replace BK296 := bl_ BK296 hb; replace HB := Aside0.mk (below_step (by repeat (with_reducible first | exact HB.out | apply pw_below_drewN | apply below_drew1 | refine below_set ?_ GE296.out)) hb); (try clear hb); (try clear hb2); (try clear hk); (try clear hi); have hcz17_0 : w16.cell? ⟨gb296, 0, none⟩ = some (.int .i64 a0_0) := (blk_cell BK296.out 0).trans rfl; have hcz17_1 : w16.cell? ⟨gb296, 1, none⟩ = some (.int .i64 a0_1) := (blk_cell BK296.out 1).trans rfl; have hcz17_2 : w16.cell? ⟨gb296, 2, none⟩ = some (.slice A0_2 l0_2.length c0_2) := (blk_cell BK296.out 2).trans rfl; have hfz17_0 := blk_frozen BK296.out 0; have hfz17_1 := blk_frozen BK296.out 1; have hfz17_2 := blk_frozen BK296.out 2) | ((with_reducible refine gate_callee (f := 39) rfl ?_); refine goesL_ (some 15) rfl rfl Try.func39 (by kernel_rfl) rfl #[.agg #[.int .i64 a0_0, .int .i64 a0_1, .slice A0_2 l0_2.length c0_2]] rfl (by (try simp only [List.map_toArray, List.map_cons, List.map_nil]); first | done | rfl | (simp only [List.length_drop, List.length_take]; rfl)) ?_; (with_reducible refine (due_Next.calls k a0_0 a0_1 _ _ l0_2 t298 true _ ?side1 ?side2 A8.out).mono ?_); (case side1 => exact (Kd.C_below HR0_2.out HB.out)); (case side2 => exact HC0_2.out); rintro e w18 ⟨rfl, hb⟩; refine ⟨_, rfl, ?_⟩; replace BK296 := bl_ BK296 hb; replace HB := Aside0.mk (below_step (by repeat (with_reducible first | exact HB.out | apply pw_below_drewN | apply below_drew1 | refine below_set ?_ GE296.out)) hb); (try clear hb); (try clear hb2); (try clear hk); (try clear hi); have hcz19_0 : w18.cell? ⟨gb296, 0, none⟩ = some (.int .i64 a0_0) := (blk_cell BK296.out 0).trans rfl; have hcz19_1 : w18.cell? ⟨gb296, 1, none⟩ = some (.int .i64 a0_1) := (blk_cell BK296.out 1).trans rfl; have hcz19_2 : w18.cell? ⟨gb296, 2, none⟩ = some (.slice A0_2 l0_2.length c0_2) := (blk_cell BK296.out 2).trans rfl; have hfz19_0 := blk_frozen BK296.out 0; have hfz19_1 := blk_frozen BK296.out 1; have hfz19_2 := blk_frozen BK296.out 2) | ((with_reducible refine gate_callee (f := 37) rfl ?_); refine goesL_ (some 21) rfl rfl Try.func37 (by kernel_rfl) rfl #[.agg #[.int .i64 a0_0, .int .i64 a0_1, .slice A0_2 l0_2.length c0_2], .int .i64 a1] rfl (by (try simp only [List.map_toArray, List.map_cons, List.map_nil]); first | done | rfl | (simp only [List.length_drop, List.length_take]; rfl)) ?_; (with_reducible refine (due_Turns.calls k a0_0 a0_1 _ _ l0_2 a1 t300 t303 _ ?side1 ?side2 A9.out).mono ?_); (case side1 => exact (Kd.C_below HR0_2.out HB.out)); (case side2 => exact HC0_2.out); rintro e w20 ⟨v301, rfl, ho0, hb⟩; refine ⟨_, rfl, ?_⟩; have HO302 := Aside0.mk (Kd.R_lower ho0 (below_size (by repeat (with_reducible first | exact HB.out | apply pw_below_drewN | apply below_drew1 | refine below_set ?_ GE296.out)))); replace BK296 := bl_ BK296 hb; replace HB := Aside0.mk (below_step (by repeat (with_reducible first | exact HB.out | apply pw_below_drewN | apply below_drew1 | refine below_set ?_ GE296.out)) hb); (try clear hb); (try clear hb2); (try clear hk); (try clear hi); (try clear ho0); have hcz21_0 : w20.cell? ⟨gb296, 0, none⟩ = some (.int .i64 a0_0) := (blk_cell BK296.out 0).trans rfl; have hcz21_1 : w20.cell? ⟨gb296, 1, none⟩ = some (.int .i64 a0_1) := (blk_cell BK296.out 1).trans rfl; have hcz21_2 : w20.cell? ⟨gb296, 2, none⟩ = some (.slice A0_2 l0_2.length c0_2) := (blk_cell BK296.out 2).trans rfl; have hfz21_0 := blk_frozen BK296.out 0; have hfz21_1 := blk_frozen BK296.out 1; have hfz21_2 := blk_frozen BK296.out 2) | ((with_reducible refine gate_callee (f := 43) rfl ?_); refine goesL_ (some 47) rfl rfl Try.func43 (by kernel_rfl) rfl #[.slice A0_2 l0_2.length c0_2] rfl (by (try simp only [List.map_toArray, List.map_cons, List.map_nil]); first | done | rfl | (simp only [List.length_drop, List.length_take]; rfl)) ?_; (with_reducible refine (due_First.calls k _ _ l0_2 t306 t307 t308 t309 t310 t311 t312 _ ?side1 ?side2 A12.out).mono ?_); (case side1 => exact (Kd.C_below HR0_2.out HB.out)); (case side2 => exact HC0_2.out); rintro e w22 ⟨rfl, hb⟩; refine ⟨_, rfl, ?_⟩; replace HO302 := rb_ HO302 hb; replace BK296 := bl_ BK296 hb; replace HB := Aside0.mk (below_step (by repeat (with_reducible first | exact HB.out | apply pw_below_drewN | apply below_drew1 | refine below_set ?_ GE296.out)) hb); (try clear hb); (try clear hb2); (try clear hk); (try clear hi)) | ((with_reducible refine gate_dst (N := 9) rfl ?_); (try (refine gate_guard (by rfl) ?_; dsimp only)); refine box_event ?hg (N := 9) ?hd (cs := #[.int .i64 0, .int .i64 0, .int .i64 0, .int .i64 0, .int .i64 0, .int .i64 0]) (t := 28) ?hr ?_; (case hd => rfl); (case hg => rfl); (case hr => first | (go_simp; done) | (go_simp; rfl)); intro gb313 hg w23 hbox hb; replace HO302 := rb_ HO302 hb; have BK313 := Aside0.mk (hbox); have GW313 := Aside0.mk ((by rw [hg]; exact (below_size (by repeat (with_reducible first | exact HB.out | apply pw_below_drewN | apply below_drew1 | refine below_set ?_ GE296.out))) : w.heap.size ≤ gb313)); have GE313 := Aside0.mk ((by rw [hg]; exact (below_size (by repeat (with_reducible first | exact HB.out | apply pw_below_drewN | apply below_drew1 | refine below_set ?_ GE296.out))) : w.heap.size ≤ gb313)); replace HB := Aside0.mk (below_step (by repeat (with_reducible first | exact HB.out | apply pw_below_drewN | apply below_drew1 | refine below_set ?_ GE296.out)) hb); have NB296_313 := Aside0.mk ((by rw [hg]; exact Nat.ne_of_lt (blk_lt BK296.out) : gb296 ≠ gb313)); have NB313_296 := Aside0.mk ((by rw [hg]; exact Nat.ne_of_gt (blk_lt BK296.out) : gb313 ≠ gb296)); replace BK296 := bl_ BK296 hb; clear hb hbox hg; have hnb24 := NB313_296.out; have hnc24 := NB296_313.out; have hcz25_0 : w23.cell? ⟨gb313, 0, none⟩ = some (.int .i64 0) := (blk_cell BK313.out 0).trans rfl; have hcz25_1 : w23.cell? ⟨gb313, 1, none⟩ = some (.int .i64 0) := (blk_cell BK313.out 1).trans rfl; have hcz25_2 : w23.cell? ⟨gb313, 2, none⟩ = some (.int .i64 0) := (blk_cell BK313.out 2).trans rfl; have hcz25_3 : w23.cell? ⟨gb313, 3, none⟩ = some (.int .i64 0) := (blk_cell BK313.out 3).trans rfl; have hcz25_4 : w23.cell? ⟨gb313, 4, none⟩ = some (.int .i64 0) := (blk_cell BK313.out 4).trans rfl; have hcz25_5 : w23.cell? ⟨gb313, 5, none⟩ = some (.int .i64 0) := (blk_cell BK313.out 5).trans rfl; have hfz25_0 := blk_frozen BK313.out 0; have hfz25_1 := blk_frozen BK313.out 1; have hfz25_2 := blk_frozen BK313.out 2; have hfz25_3 := blk_frozen BK313.out 3; have hfz25_4 := blk_frozen BK313.out 4; have hfz25_5 := blk_frozen BK313.out 5))
    (try simp only [Act.put, List.setIfInBounds_toArray, List.set_cons_zero, List.set_cons_succ])
    go_cut [66] (fun v66 wc => ∃ (kq : Nat) (x66_12 : Bool), v66 = .bool x66_12 ∧ Aside0 (watchmanlaw09_DueNext.j0 kq t298 t300 x66_12 t306 t307 t308 t309 t310 t311 = some r) ∧ Aside0 (kq ≤ k) ∧ Aside0 (Kd.R k65 65 wc w.heap.size (fun _ => True) v301 t300) ∧ Aside0 (wc.heap[gb296]? = some (.cells #[.int .i64 a0_0, .int .i64 a0_1, (.slice A0_2 l0_2.length c0_2)] 24 (0, 0))) ∧ Aside0 (wc.heap[gb313]? = some (.cells #[.int .i64 t306, .int .i64 t307, .int .i64 t308, .int .i64 t309, .int .i64 t310, .int .i64 t311] 28 (0, 0))) ∧ Aside0 (Below w.heap.size w wc))
    case first =>
     have H := HC13.out
     clear HC13
     by_cases c26 : t312 = true
     ·subst c26
      rw [if_pos rfl] at H; try dsimp only at H
      by_cases c27 : t311 = t298
      ·rw [if_pos c27] at H
       have c27b0 : (t311 == t298) = true := beq_iff_eq.mpr c27
       have c27b1 : (t311 != t298) = false := bne_eq_false_iff_eq.mpr c27
       clear c27
       (first | rw [c27b0] | (simp only [i64_w, i32_w]; rw [c27b0]) | skip)
       have H' := Aside0.mk H
       clear H
       have hnb28 := NB313_296.out
       have hnc28 := NB296_313.out
       have hcz29_0 : w23.cell? ⟨gb313, 0, none⟩ = some (.int .i64 0) := (blk_cell BK313.out 0).trans rfl
       have hcz29_1 : w23.cell? ⟨gb313, 1, none⟩ = some (.int .i64 0) := (blk_cell BK313.out 1).trans rfl
       have hcz29_2 : w23.cell? ⟨gb313, 2, none⟩ = some (.int .i64 0) := (blk_cell BK313.out 2).trans rfl
       have hcz29_3 : w23.cell? ⟨gb313, 3, none⟩ = some (.int .i64 0) := (blk_cell BK313.out 3).trans rfl
       have hcz29_4 : w23.cell? ⟨gb313, 4, none⟩ = some (.int .i64 0) := (blk_cell BK313.out 4).trans rfl
       have hcz29_5 : w23.cell? ⟨gb313, 5, none⟩ = some (.int .i64 0) := (blk_cell BK313.out 5).trans rfl
       have hfz29_0 := blk_frozen BK313.out 0
       have hfz29_1 := blk_frozen BK313.out 1
       have hfz29_2 := blk_frozen BK313.out 2
       have hfz29_3 := blk_frozen BK313.out 3
       have hfz29_4 := blk_frozen BK313.out 4
       have hfz29_5 := blk_frozen BK313.out 5
       obtain ⟨Ao30, co30, eo30⟩ := Kd.R_slice HO302.out
       subst eo30
       go_wp2
       go_meet
       case rel => exact ⟨_, (((decide ((t300.length : Int) > 0)) != (decide (t298 ≤ a1)))), (by first | rfl | (simp; done) | (simp [*]; done) | (simp; cases decide (0 < t300.length) <;> cases decide (t298 ≤ a1) <;> rfl)), H', ⟨by first | omega | exact Nat.le_refl _⟩, ⟨by (with_reducible repeat (first | apply Kd.R_alloc | apply Kd.R_drewN | apply Kd.R_drew)); exact Kd.R_mono (rf6 (Kd.R_types HO302.out BK313.out (by decide)) (fun _ hk => hk.2) (.int .i64 t306) (.int .i64 t307) (.int .i64 t308) (.int .i64 t309) (.int .i64 t310) (.int .i64 t311)) (fun _ hk => trivial)⟩, ⟨by (with_reducible repeat (first | refine blk_drewN ?_ _ | refine blk_drew ?_ | refine blk_alloc ?_ _)); refine blk_far ?_ NB296_313.out _; (with_reducible repeat (first | refine blk_drewN ?_ _ | refine blk_drew ?_ | refine blk_alloc ?_ _)); refine blk_far ?_ NB296_313.out _; (with_reducible repeat (first | refine blk_drewN ?_ _ | refine blk_drew ?_ | refine blk_alloc ?_ _)); refine blk_far ?_ NB296_313.out _; (with_reducible repeat (first | refine blk_drewN ?_ _ | refine blk_drew ?_ | refine blk_alloc ?_ _)); refine blk_far ?_ NB296_313.out _; (with_reducible repeat (first | refine blk_drewN ?_ _ | refine blk_drew ?_ | refine blk_alloc ?_ _)); refine blk_far ?_ NB296_313.out _; (with_reducible repeat (first | refine blk_drewN ?_ _ | refine blk_drew ?_ | refine blk_alloc ?_ _)); refine blk_far ?_ NB296_313.out _; (with_reducible repeat (first | refine blk_drewN ?_ _ | refine blk_drew ?_ | refine blk_alloc ?_ _)); exact BK296.out⟩, ⟨by (with_reducible repeat (first | refine blk_drewN ?_ _ | refine blk_drew ?_ | refine blk_alloc ?_ _)); refine blk_put (cs := #[.int .i64 t306, .int .i64 t307, .int .i64 t308, .int .i64 t309, .int .i64 t310, .int .i64 0]) ?_ 5 _ rfl; (with_reducible repeat (first | refine blk_drewN ?_ _ | refine blk_drew ?_ | refine blk_alloc ?_ _)); refine blk_put (cs := #[.int .i64 t306, .int .i64 t307, .int .i64 t308, .int .i64 t309, .int .i64 0, .int .i64 0]) ?_ 4 _ rfl; (with_reducible repeat (first | refine blk_drewN ?_ _ | refine blk_drew ?_ | refine blk_alloc ?_ _)); refine blk_put (cs := #[.int .i64 t306, .int .i64 t307, .int .i64 t308, .int .i64 0, .int .i64 0, .int .i64 0]) ?_ 3 _ rfl; (with_reducible repeat (first | refine blk_drewN ?_ _ | refine blk_drew ?_ | refine blk_alloc ?_ _)); refine blk_put (cs := #[.int .i64 t306, .int .i64 t307, .int .i64 0, .int .i64 0, .int .i64 0, .int .i64 0]) ?_ 2 _ rfl; (with_reducible repeat (first | refine blk_drewN ?_ _ | refine blk_drew ?_ | refine blk_alloc ?_ _)); refine blk_put (cs := #[.int .i64 t306, .int .i64 0, .int .i64 0, .int .i64 0, .int .i64 0, .int .i64 0]) ?_ 1 _ rfl; (with_reducible repeat (first | refine blk_drewN ?_ _ | refine blk_drew ?_ | refine blk_alloc ?_ _)); refine blk_put (cs := #[.int .i64 0, .int .i64 0, .int .i64 0, .int .i64 0, .int .i64 0, .int .i64 0]) ?_ 0 _ rfl; (with_reducible repeat (first | refine blk_drewN ?_ _ | refine blk_drew ?_ | refine blk_alloc ?_ _)); exact BK313.out⟩, ⟨by repeat (with_reducible first | exact HB.out | apply pw_below_drewN | apply below_drew1 | refine below_set ?_ (Aside0.out (by assumption)))⟩⟩
      ·rw [if_neg c27] at H
       exact absurd H (by simp)
     ·replace c26 := Bool.eq_false_iff.mpr c26
      subst c26
      rw [if_neg (show ¬ (false = true) by decide)] at H; try dsimp only at H
      exact absurd H (by simp)
    case rest =>
     clear HC13
     try clear c1; try clear c2; try clear p2; try clear c3; try clear c4; try clear c9; try clear c10; try clear c10b0; try clear c10b1; try clear c11; try clear c24; try clear c26; try clear c27; try clear c27b0; try clear c27b1; try clear c28; try clear hcz15_0; try clear hcz15_1; try clear hcz15_2; try clear hcz17_0; try clear hcz17_1; try clear hcz17_2; try clear hcz19_0; try clear hcz19_1; try clear hcz19_2; try clear hcz21_0; try clear hcz21_1; try clear hcz21_2; try clear hcz25_0; try clear hcz25_1; try clear hcz25_2; try clear hcz25_3; try clear hcz25_4; try clear hcz25_5; try clear hcz29_0; try clear hcz29_1; try clear hcz29_2; try clear hcz29_3; try clear hcz29_4; try clear hcz29_5; try clear hcz6_0; try clear hcz6_1; try clear hcz6_2; try clear hfz15_0; try clear hfz15_1; try clear hfz15_2; try clear hfz17_0; try clear hfz17_1; try clear hfz17_2; try clear hfz19_0; try clear hfz19_1; try clear hfz19_2; try clear hfz21_0; try clear hfz21_1; try clear hfz21_2; try clear hfz25_0; try clear hfz25_1; try clear hfz25_2; try clear hfz25_3; try clear hfz25_4; try clear hfz25_5; try clear hfz29_0; try clear hfz29_1; try clear hfz29_2; try clear hfz29_3; try clear hfz29_4; try clear hfz29_5; try clear hfz6_0; try clear hfz6_1; try clear hfz6_2
     obtain ⟨kq, x66_12, rfl, HA, HJ12, HO_7, BK296, BK313, HB⟩ := hcut
     cases kq with
     | zero => exact absurd HA.out (by simp [watchmanlaw09_DueNext.j0])
     | succ kj12 =>
      have H := HA.out
      clear HA
      simp only [watchmanlaw09_DueNext.j0] at H
      by_cases c31 : x66_12 = true
      ·subst c31
       rw [if_pos rfl] at H; try dsimp only at H
       exact absurd H (by simp)
      ·replace c31 := Bool.eq_false_iff.mpr c31
       subst c31
       rw [if_neg (show ¬ (false = true) by decide)] at H; try dsimp only at H
       replace H := Option.bind_eq_some_iff.mp H
       obtain ⟨t314, A320, H⟩ := H
       try dsimp only at H
       have A32 := Aside0.mk A320
       clear A320
       by_cases c33 : t314 = true
       ·subst c33
        rw [if_pos rfl] at H; try dsimp only at H
        by_cases c34 : (t300.length : Int) = 0
        ·rw [if_pos c34] at H
         have c34b0 : ((t300.length : Int) == 0) = true := beq_iff_eq.mpr c34
         have c34b1 : ((t300.length : Int) != 0) = false := bne_eq_false_iff_eq.mpr c34
         clear c34
         obtain rfl := Option.some.inj H
         try go_wp2
         replace HO_7 := Aside0.mk (Kd.R_drew HO_7.out)
         replace BK296 := Aside0.mk (blk_drew BK296.out)
         replace BK313 := Aside0.mk (blk_drew BK313.out)
         replace HB := Aside0.mk (below_drew1 HB.out)
         refine start_ (n := 24) (S := fun w' => True) (ds := []) #[false, false, false, false, false, false, false, false, false, false, false, false, false, false, false, false, false, false, false, false, false, false, false, false] (by kernel_rfl) rfl rfl trivial (fun hHeld => ?_); refine with_tabW watchmanlaw09_DueNext.tab12 watchmanlaw09_DueNext.bits12 (fun HT_ HW_ => ?_)
         generalize wc.drew = w35 at HO_7 BK296 BK313 HB hHeld ⊢
         refine one_ (i := 0) (N := some 67) (dn_ 1 24) rfl rfl (one_of HT_.out (by kernel_rfl)) (by decide) (fun K hK => ?_)
         refine goes_ Try.func46 (by kernel_rfl) rfl #[] (by rfl) rfl rfl (by (try simp only [List.map_toArray, List.map_cons, List.map_nil]); first | done | rfl | (simp only [List.length_drop, List.length_take]; rfl)) ?_
         with_reducible refine (watchmanlaw09_coming.calls  true _ A32.out).mono ?_
         rintro e w36 ⟨rfl, hb⟩
         refine ⟨_, rfl, ?_⟩
         replace HO_7 := rb_ HO_7 hb
         replace BK296 := bl_ BK296 hb
         replace BK313 := bl_ BK313 hb
         replace HB := Aside0.mk (below_step (by repeat (with_reducible first | exact HB.out | apply pw_below_drewN | apply below_drew1 | refine below_set ?_ (Aside0.out (by assumption)))) hb)
         (try clear hb)
         (try clear hb2)
         (try clear hk)
         (try clear hi)
         obtain ⟨Ao37, co37, eo37⟩ := Kd.R_slice HO_7.out
         (first | subst eo37 | (injection eo37 with f1_ f2_ f3_; have f4_ := f1_.symm; have f5_ := f3_.symm; clear f1_ f2_ f3_; subst f4_; subst f5_))
         refine hK.out _ _ trivial (fun hHeld => ?_)
         clear hK K
         refine norm_ (a' := ?_) ?_ ?_
         rotate_left
         ·show Act.put _ (some 67) _ = _
          simp only [Act.put, List.setIfInBounds_toArray, List.set_cons_zero, List.set_cons_succ, i64_w, i32_w]
          rfl
         have Q_ := Qs.mk (n := 24) [(0, 1, 68, 3), (0, 2, 69, 7), (0, 3, 70, 15), (0, 4, 71, 31), (0, 5, 72, 63), (1, 6, 73, 127), (1, 7, 74, 255), (1, 8, 75, 511), (1, 9, 76, 1023), (1, 10, 77, 2047), (1, 11, 78, 4095), (1, 12, 79, 8191), (1, 13, 80, 16383), (1, 14, 81, 32767), (1, 15, 82, 65535), (1, 16, 83, 131071), (1, 17, 84, 262143), (1, 18, 85, 524287), (1, 19, 86, 1048575), (1, 20, 87, 2097151), (0, 21, 88, 4194303), (0, 22, 89, 8388607), (0, 23, 4, 16777215)]
         iterate 23 (first | (obtain ⟨q_, Q_⟩ := Qs.p Q_; refine pureQ_ q_ (v := ?_) (a' := ?_) rfl rfl (any_of HT_.out (by kernel_rfl)) (fun _ _ _ h => h) (Or.inl ⟨by rfl, ?_⟩) ?_ ?_; rotate_left; (intro w'; go_simp; with_reducible rfl); rotate_left; (simp only [Act.put, List.setIfInBounds_toArray, List.set_cons_zero, List.set_cons_succ, i64_w, i32_w]; rfl)) | (obtain ⟨q_, Q_⟩ := Qs.u Q_; refine pureQ_ q_ (v := undef) (a' := ?_) rfl rfl (any_of HT_.out (by kernel_rfl)) (fun _ _ _ h => h) (Or.inr ⟨by rfl, rfl⟩) ?_ ?_; rotate_left; (simp only [Act.put, List.setIfInBounds_toArray, List.set_cons_zero, List.set_cons_succ, i64_w, i32_w]; rfl)))
         clear Q_
         refine done_ (done_of HT_.out (by kernel_rfl)) ?_
         try go_wp2
         go_ret
         exact ⟨by first | rfl | (simp [errW_none, errW_some] <;> rfl) | (simp [*, errW_none, errW_some] <;> rfl), by repeat (with_reducible first | exact HB.out | apply pw_below_drewN | apply below_drew1 | refine below_set ?_ (Aside0.out (by assumption)))⟩
        ·rw [if_neg c34] at H
         have c34b0 : ((t300.length : Int) == 0) = false := beq_eq_false_iff_ne.mpr c34
         have c34b1 : ((t300.length : Int) != 0) = true := bne_iff_ne.mpr c34
         have c34b2 : ¬ (t300 = []) := fun h_ => c34 (by rw [h_]; rfl)
         by_cases c38 : 0 < (t300.length : Int)
         ·rw [if_pos c38] at H
          have c38b0 : decide (0 < (t300.length : Int)) = true := decide_eq_true c38
          have c38b1 : decide (0 < t300.length) = true := decide_eq_true (by omega)
          clear c38
          by_cases c39 : ((rd_T65 t300 0).f0) = t298
          ·rw [if_pos c39] at H
           have c39b0 : (((rd_T65 t300 0).f0) == t298) = true := beq_iff_eq.mpr c39
           have c39b1 : (((rd_T65 t300 0).f0) != t298) = false := bne_eq_false_iff_eq.mpr c39
           clear c39
           obtain rfl := Option.some.inj H
           try go_wp2
           replace HO_7 := Aside0.mk (Kd.R_drew HO_7.out)
           replace BK296 := Aside0.mk (blk_drew BK296.out)
           replace BK313 := Aside0.mk (blk_drew BK313.out)
           replace HB := Aside0.mk (below_drew1 HB.out)
           have p315 : 0 ≤ (0 : Int) := (by omega)
           have q315 : 0 < (t300.length : Int) := of_decide_eq_true (by first | (with_reducible assumption) | assumption)
           obtain ⟨Ao_q, co_q, eo_q⟩ := Kd.R_slice HO_7.out
           subst eo_q
           obtain ⟨ad315, e315, hx315_0, hx315_1, hx315_2, hx315_3⟩ := at_T65 (Kd.R_reads' HO_7.out).2.2 0 p315 q315
           cases e315
           have qi315 : (0 < t300.length) = True := eq_true (by omega)
           (try rw [show ((0 : Int)).toNat = 0 from rfl] at hx315_0)
           (try rw [show 0 * 4 = 0 from rfl] at hx315_0)
           (try rw [Addr.add_zero'] at hx315_0)
           (try rw [show ((0 : Int)).toNat = 0 from rfl] at hx315_1)
           (try rw [show 0 * 4 = 0 from rfl] at hx315_1)
           (try rw [Addr.add_zero'] at hx315_1)
           (try rw [show ((0 : Int)).toNat = 0 from rfl] at hx315_2)
           (try rw [show 0 * 4 = 0 from rfl] at hx315_2)
           (try rw [Addr.add_zero'] at hx315_2)
           (try rw [show ((0 : Int)).toNat = 0 from rfl] at hx315_3)
           (try rw [show 0 * 4 = 0 from rfl] at hx315_3)
           (try rw [Addr.add_zero'] at hx315_3)
           replace p315 := eq_true p315
           replace q315 := eq_true q315
           have p316 : 0 ≤ (0 : Int) := (by omega)
           have q316 : 0 < (t300.length : Int) := of_decide_eq_true (by first | (with_reducible assumption) | assumption)
           obtain ⟨ad316, e316, hx316_0, hx316_1, hx316_2, hx316_3⟩ := at_T65 (Kd.R_reads' HO_7.out).2.2 0 p316 q316
           obtain rfl : ad315 = ad316 := (by injection e316)
           have qi316 : (0 < t300.length) = True := eq_true (by omega)
           (try rw [show ((0 : Int)).toNat = 0 from rfl] at hx316_0)
           (try rw [show 0 * 4 = 0 from rfl] at hx316_0)
           (try rw [Addr.add_zero'] at hx316_0)
           (try rw [show ((0 : Int)).toNat = 0 from rfl] at hx316_1)
           (try rw [show 0 * 4 = 0 from rfl] at hx316_1)
           (try rw [Addr.add_zero'] at hx316_1)
           (try rw [show ((0 : Int)).toNat = 0 from rfl] at hx316_2)
           (try rw [show 0 * 4 = 0 from rfl] at hx316_2)
           (try rw [Addr.add_zero'] at hx316_2)
           (try rw [show ((0 : Int)).toNat = 0 from rfl] at hx316_3)
           (try rw [show 0 * 4 = 0 from rfl] at hx316_3)
           (try rw [Addr.add_zero'] at hx316_3)
           replace p316 := eq_true p316
           replace q316 := eq_true q316
           refine start_ (n := 24) (S := fun w' => w'.cell? ⟨gb313, 0, none⟩ = some (.int .i64 t306) ∧ w'.cell? ⟨gb313, 1, none⟩ = some (.int .i64 t307) ∧ w'.cell? ⟨gb313, 2, none⟩ = some (.int .i64 t308) ∧ w'.cell? ⟨gb313, 3, none⟩ = some (.int .i64 t309) ∧ w'.cell? ⟨gb313, 4, none⟩ = some (.int .i64 t310) ∧ w'.cell? ⟨gb313, 5, none⟩ = some (.int .i64 t311) ∧ w'.cell? ad315 = some (.int .i64 ((rd_T65 t300 0).f0)) ∧ w'.cell? ⟨ad315.block, ad315.off + 1, none⟩ = some (.int .i64 ((rd_T65 t300 0).f1.f0)) ∧ w'.cell? ⟨ad315.block, ad315.off + 2, none⟩ = some (.int .i64 ((rd_T65 t300 0).f1.f1)) ∧ w'.cell? ⟨ad315.block, ad315.off + 3, none⟩ = some (.int .i64 ((rd_T65 t300 0).f2)) ∧ w'.cell? ad315 = some (.int .i64 ((rd_T65 t300 0).f0)) ∧ w'.cell? ⟨ad315.block, ad315.off + 1, none⟩ = some (.int .i64 ((rd_T65 t300 0).f1.f0)) ∧ w'.cell? ⟨ad315.block, ad315.off + 2, none⟩ = some (.int .i64 ((rd_T65 t300 0).f1.f1)) ∧ w'.cell? ⟨ad315.block, ad315.off + 3, none⟩ = some (.int .i64 ((rd_T65 t300 0).f2))) (ds := []) #[false, false, false, false, false, false, false, false, false, false, false, false, false, false, false, false, false, false, false, false, false, false, false, false] (by kernel_rfl) rfl rfl ⟨(blk_cell BK313.out 0).trans rfl, (blk_cell BK313.out 1).trans rfl, (blk_cell BK313.out 2).trans rfl, (blk_cell BK313.out 3).trans rfl, (blk_cell BK313.out 4).trans rfl, (blk_cell BK313.out 5).trans rfl, hx315_0, hx315_1, hx315_2, hx315_3, hx316_0, hx316_1, hx316_2, hx316_3⟩ (fun hHeld => ?_); refine with_tabW watchmanlaw09_DueNext.tab12 watchmanlaw09_DueNext.bits12 (fun HT_ HW_ => ?_)
           generalize wc.drew = w40 at HO_7 BK296 BK313 HB hx315_0 hx315_1 hx315_2 hx315_3 hx316_0 hx316_1 hx316_2 hx316_3 hHeld ⊢
           refine one_ (i := 0) (N := some 67) (dn_ 1 24) rfl rfl (one_of HT_.out (by kernel_rfl)) (by decide) (fun K hK => ?_)
           refine goes_ Try.func46 (by kernel_rfl) rfl #[] (by rfl) rfl rfl (by (try simp only [List.map_toArray, List.map_cons, List.map_nil]); first | done | rfl | (simp only [List.length_drop, List.length_take]; rfl)) ?_
           with_reducible refine (watchmanlaw09_coming.calls  true _ A32.out).mono ?_
           rintro e w41 ⟨rfl, hb⟩
           have HS6_ := (hb.cell (World.block_lt_of_cell? _ _ (hHeld.2.2.2.2.2.2.1))).trans (hHeld.2.2.2.2.2.2.1)
           have HS7_ := (hb.cell (World.block_lt_of_cell? _ _ (hHeld.2.2.2.2.2.2.2.1))).trans (hHeld.2.2.2.2.2.2.2.1)
           have HS8_ := (hb.cell (World.block_lt_of_cell? _ _ (hHeld.2.2.2.2.2.2.2.2.1))).trans (hHeld.2.2.2.2.2.2.2.2.1)
           have HS9_ := (hb.cell (World.block_lt_of_cell? _ _ (hHeld.2.2.2.2.2.2.2.2.2.1))).trans (hHeld.2.2.2.2.2.2.2.2.2.1)
           have HS10_ := (hb.cell (World.block_lt_of_cell? _ _ (hHeld.2.2.2.2.2.2.2.2.2.2.1))).trans (hHeld.2.2.2.2.2.2.2.2.2.2.1)
           have HS11_ := (hb.cell (World.block_lt_of_cell? _ _ (hHeld.2.2.2.2.2.2.2.2.2.2.2.1))).trans (hHeld.2.2.2.2.2.2.2.2.2.2.2.1)
           have HS12_ := (hb.cell (World.block_lt_of_cell? _ _ (hHeld.2.2.2.2.2.2.2.2.2.2.2.2.1))).trans (hHeld.2.2.2.2.2.2.2.2.2.2.2.2.1)
           have HS13_ := (hb.cell (World.block_lt_of_cell? _ _ (hHeld.2.2.2.2.2.2.2.2.2.2.2.2.2))).trans (hHeld.2.2.2.2.2.2.2.2.2.2.2.2.2)
           refine ⟨_, rfl, ?_⟩
           replace HO_7 := rb_ HO_7 hb
           replace BK296 := bl_ BK296 hb
           replace BK313 := bl_ BK313 hb
           replace HB := Aside0.mk (below_step (by repeat (with_reducible first | exact HB.out | apply pw_below_drewN | apply below_drew1 | refine below_set ?_ (Aside0.out (by assumption)))) hb)
           (try clear hb)
           (try clear hb2)
           (try clear hk)
           (try clear hi)
           obtain ⟨Ao42, co42, eo42⟩ := Kd.R_slice HO_7.out
           (first | subst eo42 | (injection eo42 with f1_ f2_ f3_; have f4_ := f1_.symm; have f5_ := f3_.symm; clear f1_ f2_ f3_; subst f4_; subst f5_))
           refine hK.out _ _ ⟨(blk_cell BK313.out 0).trans rfl, (blk_cell BK313.out 1).trans rfl, (blk_cell BK313.out 2).trans rfl, (blk_cell BK313.out 3).trans rfl, (blk_cell BK313.out 4).trans rfl, (blk_cell BK313.out 5).trans rfl, HS6_, HS7_, HS8_, HS9_, HS10_, HS11_, HS12_, HS13_⟩ (fun hHeld => ?_)
           clear hK K
           refine norm_ (a' := ?_) ?_ ?_
           rotate_left
           ·show Act.put _ (some 67) _ = _
            simp only [Act.put, List.setIfInBounds_toArray, List.set_cons_zero, List.set_cons_succ, i64_w, i32_w]
            rfl
           have Q_ := Qs.mk (n := 24) [(0, 1, 68, 3), (0, 2, 69, 7), (0, 3, 70, 15), (0, 4, 71, 31), (0, 5, 72, 63), (0, 6, 73, 127), (0, 7, 74, 255), (0, 8, 75, 511), (0, 10, 77, 1535), (2, 9, 76, 2047), (0, 11, 78, 4095), (0, 12, 79, 8191), (0, 13, 80, 16383), (0, 14, 81, 32767), (0, 15, 82, 65535), (0, 17, 84, 196607), (2, 16, 83, 262143), (2, 18, 85, 524287), (0, 19, 86, 1048575), (0, 20, 87, 2097151), (0, 21, 88, 4194303), (0, 22, 89, 8388607), (0, 23, 4, 16777215)]
           iterate 23 (first | (obtain ⟨q_, Q_⟩ := Qs.p Q_; refine pureQ_ q_ (v := ?_) (a' := ?_) rfl rfl (any_of HT_.out (by kernel_rfl)) (fun _ _ _ h => h) (Or.inl ⟨by rfl, ?_⟩) ?_ ?_; rotate_left; (intro w'; go_simp; with_reducible rfl); rotate_left; (simp only [Act.put, List.setIfInBounds_toArray, List.set_cons_zero, List.set_cons_succ, i64_w, i32_w]; rfl)) | (obtain ⟨q_, Q_⟩ := Qs.t Q_; refine takeQ_ q_ (v := ?_) (a' := ?_) rfl rfl (take_ofW HT_.out HW_.out (by kernel_rfl)) (fun _ _ _ h => h) (Or.inl ⟨by rfl, ?_⟩) hHeld ?_ ?_; rotate_left; (rintro w' ⟨s0, s1, s2, s3, s4, s5, s6, s7, s8, s9, s10, s11, s12, s13⟩; go_simp; with_reducible rfl); rotate_left; (simp only [Act.put, List.setIfInBounds_toArray, List.set_cons_zero, List.set_cons_succ, i64_w, i32_w]; rfl)))
           clear Q_
           refine done_ (done_of HT_.out (by kernel_rfl)) ?_
           try go_wp2
           go_ret
           exact ⟨by first | rfl | (simp [errW_none, errW_some] <;> rfl) | (simp [*, errW_none, errW_some] <;> rfl), by repeat (with_reducible first | exact HB.out | apply pw_below_drewN | apply below_drew1 | refine below_set ?_ (Aside0.out (by assumption)))⟩
          ·rw [if_neg c39] at H
           exact absurd H (by simp)
         ·rw [if_neg c38] at H
          exact absurd H (by simp)
       ·replace c33 := Bool.eq_false_iff.mpr c33
        subst c33
        rw [if_neg (show ¬ (false = true) by decide)] at H; try dsimp only at H
        exact absurd H (by simp)
   ·replace c11 := Bool.eq_false_iff.mpr c11
    subst c11
    rw [if_neg (show ¬ (false = true) by decide)] at H; try dsimp only at H
    replace H := Option.bind_eq_some_iff.mp H
    obtain ⟨t305, A430, H⟩ := H
    try dsimp only at H
    have A43 := Aside0.mk A430
    clear A430
    by_cases c44 : t305 = true
    ·subst c44
     rw [if_pos rfl] at H; try dsimp only at H
     by_cases c45 : t298 = 0
     ·rw [if_pos c45] at H
      have c45b0 : (t298 == 0) = true := beq_iff_eq.mpr c45
      have c45b1 : (t298 != 0) = false := bne_eq_false_iff_eq.mpr c45
      clear c45
      obtain rfl := Option.some.inj H
      go_enter Try.func9, Try.ntmps9
      go_wp2_with (first | ((with_reducible refine gate_dst (N := 2) rfl ?_); (try (refine gate_guard (by rfl) ?_; dsimp only)); refine box_event ?hg (N := 2) ?hd (cs := #[.int .i64 a0_0, .int .i64 a0_1, .slice A0_2 l0_2.length c0_2]) (t := 24) ?hr ?_; (case hd => rfl); (case hg => rfl); (case hr => first | (go_simp; done) | (go_simp; rfl)); intro gb296 hg w46 hbox hb; have BK296 := Aside0.mk (hbox); have GW296 := Aside0.mk ((by rw [hg]; exact (below_size HB.out) : w.heap.size ≤ gb296)); have GE296 := Aside0.mk ((by rw [hg]; exact (below_size HB.out) : w.heap.size ≤ gb296)); replace HB := Aside0.mk (below_step HB.out hb); clear hb hbox hg; have hcz47_0 : w46.cell? ⟨gb296, 0, none⟩ = some (.int .i64 a0_0) := (blk_cell BK296.out 0).trans rfl; have hcz47_1 : w46.cell? ⟨gb296, 1, none⟩ = some (.int .i64 a0_1) := (blk_cell BK296.out 1).trans rfl; have hcz47_2 : w46.cell? ⟨gb296, 2, none⟩ = some (.slice A0_2 l0_2.length c0_2) := (blk_cell BK296.out 2).trans rfl; have hfz47_0 := blk_frozen BK296.out 0; have hfz47_1 := blk_frozen BK296.out 1; have hfz47_2 := blk_frozen BK296.out 2) | ((with_reducible refine gate_callee (f := 35) rfl ?_); refine goesL_ (some 12) rfl rfl Try.func35 (by kernel_rfl) rfl #[.agg #[.int .i64 a0_0, .int .i64 a0_1, .slice A0_2 l0_2.length c0_2]] rfl (by (try simp only [List.map_toArray, List.map_cons, List.map_nil]); first | done | rfl | (simp only [List.length_drop, List.length_take]; rfl)) ?_; (with_reducible refine (watchmanlaw09_far.calls a0_0 a0_1 _ _ l0_2 false _ ?side1 ?side2 A3.out).mono ?_); (case side1 => exact (Kd.C_below HR0_2.out HB.out)); (case side2 => exact HC0_2.out); rintro e w48 ⟨rfl, hb⟩; refine ⟨_, rfl, ?_⟩; replace BK296 := bl_ BK296 hb; replace HB := Aside0.mk (below_step (by repeat (with_reducible first | exact HB.out | apply pw_below_drewN | apply below_drew1 | refine below_set ?_ GE296.out)) hb); (try clear hb); (try clear hb2); (try clear hk); (try clear hi); have hcz49_0 : w48.cell? ⟨gb296, 0, none⟩ = some (.int .i64 a0_0) := (blk_cell BK296.out 0).trans rfl; have hcz49_1 : w48.cell? ⟨gb296, 1, none⟩ = some (.int .i64 a0_1) := (blk_cell BK296.out 1).trans rfl; have hcz49_2 : w48.cell? ⟨gb296, 2, none⟩ = some (.slice A0_2 l0_2.length c0_2) := (blk_cell BK296.out 2).trans rfl; have hfz49_0 := blk_frozen BK296.out 0; have hfz49_1 := blk_frozen BK296.out 1; have hfz49_2 := blk_frozen BK296.out 2) | ((with_reducible refine gate_callee (f := 39) rfl ?_); refine goesL_ (some 15) rfl rfl Try.func39 (by kernel_rfl) rfl #[.agg #[.int .i64 a0_0, .int .i64 a0_1, .slice A0_2 l0_2.length c0_2]] rfl (by (try simp only [List.map_toArray, List.map_cons, List.map_nil]); first | done | rfl | (simp only [List.length_drop, List.length_take]; rfl)) ?_; (with_reducible refine (due_Next.calls k a0_0 a0_1 _ _ l0_2 t298 false _ ?side1 ?side2 A8.out).mono ?_); (case side1 => exact (Kd.C_below HR0_2.out HB.out)); (case side2 => exact HC0_2.out); rintro e w50 ⟨rfl, hb⟩; refine ⟨_, rfl, ?_⟩; replace BK296 := bl_ BK296 hb; replace HB := Aside0.mk (below_step (by repeat (with_reducible first | exact HB.out | apply pw_below_drewN | apply below_drew1 | refine below_set ?_ GE296.out)) hb); (try clear hb); (try clear hb2); (try clear hk); (try clear hi); have hcz51_0 : w50.cell? ⟨gb296, 0, none⟩ = some (.int .i64 a0_0) := (blk_cell BK296.out 0).trans rfl; have hcz51_1 : w50.cell? ⟨gb296, 1, none⟩ = some (.int .i64 a0_1) := (blk_cell BK296.out 1).trans rfl; have hcz51_2 : w50.cell? ⟨gb296, 2, none⟩ = some (.slice A0_2 l0_2.length c0_2) := (blk_cell BK296.out 2).trans rfl; have hfz51_0 := blk_frozen BK296.out 0; have hfz51_1 := blk_frozen BK296.out 1; have hfz51_2 := blk_frozen BK296.out 2) | ((with_reducible refine gate_callee (f := 37) rfl ?_); refine goesL_ (some 21) rfl rfl Try.func37 (by kernel_rfl) rfl #[.agg #[.int .i64 a0_0, .int .i64 a0_1, .slice A0_2 l0_2.length c0_2], .int .i64 a1] rfl (by (try simp only [List.map_toArray, List.map_cons, List.map_nil]); first | done | rfl | (simp only [List.length_drop, List.length_take]; rfl)) ?_; (with_reducible refine (due_Turns.calls k a0_0 a0_1 _ _ l0_2 a1 t300 t303 _ ?side1 ?side2 A9.out).mono ?_); (case side1 => exact (Kd.C_below HR0_2.out HB.out)); (case side2 => exact HC0_2.out); rintro e w52 ⟨v301, rfl, ho0, hb⟩; refine ⟨_, rfl, ?_⟩; have HO302 := Aside0.mk (Kd.R_lower ho0 (below_size (by repeat (with_reducible first | exact HB.out | apply pw_below_drewN | apply below_drew1 | refine below_set ?_ GE296.out)))); replace BK296 := bl_ BK296 hb; replace HB := Aside0.mk (below_step (by repeat (with_reducible first | exact HB.out | apply pw_below_drewN | apply below_drew1 | refine below_set ?_ GE296.out)) hb); (try clear hb); (try clear hb2); (try clear hk); (try clear hi); (try clear ho0)) | ((with_reducible refine gate_callee (f := 46) rfl ?_); refine goesL_ (some 34) rfl rfl Try.func46 (by kernel_rfl) rfl #[] rfl (by (try simp only [List.map_toArray, List.map_cons, List.map_nil]); first | done | rfl | (simp only [List.length_drop, List.length_take]; rfl)) ?_; (with_reducible refine (watchmanlaw09_coming.calls  true _ A43.out).mono ?_); rintro e w53 ⟨rfl, hb⟩; refine ⟨_, rfl, ?_⟩; replace HO302 := rb_ HO302 hb; replace BK296 := bl_ BK296 hb; replace HB := Aside0.mk (below_step (by repeat (with_reducible first | exact HB.out | apply pw_below_drewN | apply below_drew1 | refine below_set ?_ GE296.out)) hb); (try clear hb); (try clear hb2); (try clear hk); (try clear hi); obtain ⟨Ao54, co54, eo54⟩ := Kd.R_slice HO302.out; subst eo54))
      go_ret
      exact ⟨by first | rfl | (simp [errW_none, errW_some] <;> rfl) | (simp [*, errW_none, errW_some] <;> rfl), by repeat (with_reducible first | exact HB.out | apply pw_below_drewN | apply below_drew1 | refine below_set ?_ GE296.out)⟩
     ·rw [if_neg c45] at H
      exact absurd H (by simp)
    ·replace c44 := Bool.eq_false_iff.mpr c44
     subst c44
     rw [if_neg (show ¬ (false = true) by decide)] at H; try dsimp only at H
     exact absurd H (by simp)
  ·rw [if_neg c10] at H
   have c10b0 : (t303 == 0) = false := beq_eq_false_iff_ne.mpr c10
   have c10b1 : (t303 != 0) = true := bne_iff_ne.mpr c10
   replace H := Option.bind_eq_some_iff.mp H
   obtain ⟨t304, A550, H⟩ := H
   try dsimp only at H
   have A55 := Aside0.mk A550
   clear A550
   by_cases c56 : t304 = true
   ·subst c56
    rw [if_pos rfl] at H; try dsimp only at H
    obtain rfl := Option.some.inj H
    go_enter Try.func9, Try.ntmps9
    go_wp2_with (first | ((with_reducible refine gate_dst (N := 2) rfl ?_); (try (refine gate_guard (by rfl) ?_; dsimp only)); refine box_event ?hg (N := 2) ?hd (cs := #[.int .i64 a0_0, .int .i64 a0_1, .slice A0_2 l0_2.length c0_2]) (t := 24) ?hr ?_; (case hd => rfl); (case hg => rfl); (case hr => first | (go_simp; done) | (go_simp; rfl)); intro gb296 hg w57 hbox hb; have BK296 := Aside0.mk (hbox); have GW296 := Aside0.mk ((by rw [hg]; exact (below_size HB.out) : w.heap.size ≤ gb296)); have GE296 := Aside0.mk ((by rw [hg]; exact (below_size HB.out) : w.heap.size ≤ gb296)); replace HB := Aside0.mk (below_step HB.out hb); clear hb hbox hg; have hcz58_0 : w57.cell? ⟨gb296, 0, none⟩ = some (.int .i64 a0_0) := (blk_cell BK296.out 0).trans rfl; have hcz58_1 : w57.cell? ⟨gb296, 1, none⟩ = some (.int .i64 a0_1) := (blk_cell BK296.out 1).trans rfl; have hcz58_2 : w57.cell? ⟨gb296, 2, none⟩ = some (.slice A0_2 l0_2.length c0_2) := (blk_cell BK296.out 2).trans rfl; have hfz58_0 := blk_frozen BK296.out 0; have hfz58_1 := blk_frozen BK296.out 1; have hfz58_2 := blk_frozen BK296.out 2) | ((with_reducible refine gate_callee (f := 35) rfl ?_); refine goesL_ (some 12) rfl rfl Try.func35 (by kernel_rfl) rfl #[.agg #[.int .i64 a0_0, .int .i64 a0_1, .slice A0_2 l0_2.length c0_2]] rfl (by (try simp only [List.map_toArray, List.map_cons, List.map_nil]); first | done | rfl | (simp only [List.length_drop, List.length_take]; rfl)) ?_; (with_reducible refine (watchmanlaw09_far.calls a0_0 a0_1 _ _ l0_2 false _ ?side1 ?side2 A3.out).mono ?_); (case side1 => exact (Kd.C_below HR0_2.out HB.out)); (case side2 => exact HC0_2.out); rintro e w59 ⟨rfl, hb⟩; refine ⟨_, rfl, ?_⟩; replace BK296 := bl_ BK296 hb; replace HB := Aside0.mk (below_step (by repeat (with_reducible first | exact HB.out | apply pw_below_drewN | apply below_drew1 | refine below_set ?_ GE296.out)) hb); (try clear hb); (try clear hb2); (try clear hk); (try clear hi); have hcz60_0 : w59.cell? ⟨gb296, 0, none⟩ = some (.int .i64 a0_0) := (blk_cell BK296.out 0).trans rfl; have hcz60_1 : w59.cell? ⟨gb296, 1, none⟩ = some (.int .i64 a0_1) := (blk_cell BK296.out 1).trans rfl; have hcz60_2 : w59.cell? ⟨gb296, 2, none⟩ = some (.slice A0_2 l0_2.length c0_2) := (blk_cell BK296.out 2).trans rfl; have hfz60_0 := blk_frozen BK296.out 0; have hfz60_1 := blk_frozen BK296.out 1; have hfz60_2 := blk_frozen BK296.out 2) | ((with_reducible refine gate_callee (f := 39) rfl ?_); refine goesL_ (some 15) rfl rfl Try.func39 (by kernel_rfl) rfl #[.agg #[.int .i64 a0_0, .int .i64 a0_1, .slice A0_2 l0_2.length c0_2]] rfl (by (try simp only [List.map_toArray, List.map_cons, List.map_nil]); first | done | rfl | (simp only [List.length_drop, List.length_take]; rfl)) ?_; (with_reducible refine (due_Next.calls k a0_0 a0_1 _ _ l0_2 t298 t299 _ ?side1 ?side2 A8.out).mono ?_); (case side1 => exact (Kd.C_below HR0_2.out HB.out)); (case side2 => exact HC0_2.out); rintro e w61 ⟨rfl, hb⟩; refine ⟨_, rfl, ?_⟩; replace BK296 := bl_ BK296 hb; replace HB := Aside0.mk (below_step (by repeat (with_reducible first | exact HB.out | apply pw_below_drewN | apply below_drew1 | refine below_set ?_ GE296.out)) hb); (try clear hb); (try clear hb2); (try clear hk); (try clear hi); have hcz62_0 : w61.cell? ⟨gb296, 0, none⟩ = some (.int .i64 a0_0) := (blk_cell BK296.out 0).trans rfl; have hcz62_1 : w61.cell? ⟨gb296, 1, none⟩ = some (.int .i64 a0_1) := (blk_cell BK296.out 1).trans rfl; have hcz62_2 : w61.cell? ⟨gb296, 2, none⟩ = some (.slice A0_2 l0_2.length c0_2) := (blk_cell BK296.out 2).trans rfl; have hfz62_0 := blk_frozen BK296.out 0; have hfz62_1 := blk_frozen BK296.out 1; have hfz62_2 := blk_frozen BK296.out 2) | ((with_reducible refine gate_callee (f := 37) rfl ?_); refine goesL_ (some 21) rfl rfl Try.func37 (by kernel_rfl) rfl #[.agg #[.int .i64 a0_0, .int .i64 a0_1, .slice A0_2 l0_2.length c0_2], .int .i64 a1] rfl (by (try simp only [List.map_toArray, List.map_cons, List.map_nil]); first | done | rfl | (simp only [List.length_drop, List.length_take]; rfl)) ?_; (with_reducible refine (due_Turns.calls k a0_0 a0_1 _ _ l0_2 a1 t300 t303 _ ?side1 ?side2 A9.out).mono ?_); (case side1 => exact (Kd.C_below HR0_2.out HB.out)); (case side2 => exact HC0_2.out); rintro e w63 ⟨v301, rfl, ho0, hb⟩; refine ⟨_, rfl, ?_⟩; have HO302 := Aside0.mk (Kd.R_lower ho0 (below_size (by repeat (with_reducible first | exact HB.out | apply pw_below_drewN | apply below_drew1 | refine below_set ?_ GE296.out)))); replace BK296 := bl_ BK296 hb; replace HB := Aside0.mk (below_step (by repeat (with_reducible first | exact HB.out | apply pw_below_drewN | apply below_drew1 | refine below_set ?_ GE296.out)) hb); (try clear hb); (try clear hb2); (try clear hk); (try clear hi); (try clear ho0)) | ((with_reducible refine gate_callee (f := 46) rfl ?_); refine goesL_ (some 26) rfl rfl Try.func46 (by kernel_rfl) rfl #[] rfl (by (try simp only [List.map_toArray, List.map_cons, List.map_nil]); first | done | rfl | (simp only [List.length_drop, List.length_take]; rfl)) ?_; (with_reducible refine (watchmanlaw09_coming.calls  true _ A55.out).mono ?_); rintro e w64 ⟨rfl, hb⟩; refine ⟨_, rfl, ?_⟩; replace HO302 := rb_ HO302 hb; replace BK296 := bl_ BK296 hb; replace HB := Aside0.mk (below_step (by repeat (with_reducible first | exact HB.out | apply pw_below_drewN | apply below_drew1 | refine below_set ?_ GE296.out)) hb); (try clear hb); (try clear hb2); (try clear hk); (try clear hi); obtain ⟨Ao65, co65, eo65⟩ := Kd.R_slice HO302.out; subst eo65))
    go_ret
    exact ⟨by first | rfl | (simp [errW_none, errW_some] <;> rfl) | (simp [*, errW_none, errW_some] <;> rfl), by repeat (with_reducible first | exact HB.out | apply pw_below_drewN | apply below_drew1 | refine below_set ?_ GE296.out)⟩
   ·replace c56 := Bool.eq_false_iff.mpr c56
    subst c56
    rw [if_neg (show ¬ (false = true) by decide)] at H; try dsimp only at H
    exact absurd H (by simp)

end Go.Proofs.Ytcfpbmdndapeaaa.F
