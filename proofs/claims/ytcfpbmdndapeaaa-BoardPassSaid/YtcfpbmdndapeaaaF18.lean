-- Written by a program of this session (xprint.py), out of the translation and of contracts proved by hand.
import Derived.Test.YtcfpbmdndapeaaaF0
import Derived.Test.YtcfpbmdndapeaaaF2
import Derived.Test.YtcfpbmdndapeaaaF3
import Derived.Test.YtcfpbmdndapeaaaF5
import Derived.Test.YtcfpbmdndapeaaaF7
import Derived.Test.YtcfpbmdndapeaaaF8
import Derived.Test.YtcfpbmdndapeaaaF9
import Derived.Test.YtcfpbmdndapeaaaF17
namespace Go.Proofs.Ytcfpbmdndapeaaa.F
open Go.RowKit Go.Proofs.YtcfpbmdndapeaaaV.PrintWords Go.Proofs.YtcfpbmdndapeaaaV.PrintLast Go.Proofs.YtcfpbmdndapeaaaV.PrintMore
attribute [local go_sem] max2_int min2_int max_two min_two max_three min_three max_four min_four   -- for this text's walks alone
set_option linter.unusedVariables false
set_option linter.unusedSimpArgs false

attribute [local go_sem high] eqA28
/-! ### watchmanlaw08_BoardPass: function 5 -/
mutual
def watchmanlaw08_BoardPass.j0 : Nat → Int → Int → Int → Int → Bool → Int → Int → List (S28) → Int → Int → List (S28) → Int → Int → List (S28) → Option (Bool)
  | 0, _, _, _, _, _, _, _, _, _, _, _, _, _, _ => none
  | k + 1, x2, x8, x10, x12, x41, x362000, x362001, x362002, x377000, x377001, x377002, x384000, x384001, x384002 => if x41 = true then ((watchmanlaw08_boards.f k).bind fun t384 => (if t384 = true then (if x8 = 0 then (if x10 = 1 then (some true) else (some (x10 == 62))) else (some true)) else (none))) else (watchmanlaw08_BoardPass.l0 k x2 x12 0 x362000 x362001 x362002 x377000 x377001 x377002 x384000 x384001 x384002)
def watchmanlaw08_BoardPass.l0 : Nat → Int → Int → Int → Int → Int → List (S28) → Int → Int → List (S28) → Int → Int → List (S28) → Option (Bool)
  | 0, _, _, _, _, _, _, _, _, _, _, _, _ => none
  | k + 1, x2, x12, x13, x362000, x362001, x362002, x377000, x377001, x377002, x384000, x384001, x384002 => if x13 < (x362002.length : Int) then (if 0 ≤ x13 then ((board_Get.f x377000 x377001 x377002 ((rd_T28 x362002 x13).f0.f0) ((rd_T28 x362002 x13).f0.f1)).bind fun bt386 => (if bt386.2.2.2.2.2.2 = true then ((alarm_Pass.f k ((rd_T28 x362002 x13).f0.f0) ((rd_T28 x362002 x13).f0.f1) ((rd_T28 x362002 x13).f1) ((rd_T28 x362002 x13).f2) ((rd_T28 x362002 x13).f3) ((rd_T28 x362002 x13).f4) x2).bind fun bt395 => (if ((!(bt386.1 == bt395.1) || (!(bt386.2.1 == bt395.2.1))) || (!(bt386.2.2.1 == bt395.2.2.1) || (!(bt386.2.2.2.1 == bt395.2.2.2.1) || (!(bt386.2.2.2.2.1 == bt395.2.2.2.2.1) || (!(bt386.2.2.2.2.2.1 == bt395.2.2.2.2.2)))))) = true then (none) else (watchmanlaw08_BoardPass.l0 k x2 x12 (wrap64 (x13 + 1)) x362000 x362001 x362002 x377000 x377001 x377002 x384000 x384001 x384002))) else (none))) else (none)) else ((watchmanlaw08_boards.f k).bind fun t401 => (if t401 = true then (if x12 = 0 then ((watchmanref08_Same.f k x377000 x377001 x377002 x384000 x384001 x384002).bind fun t402 => (if t402 = true then (if (x377002.length : Int) = (x362002.length : Int) then (if x377001 = x2 then ((board_Is.f k x377000 x377001 x377002).bind fun t403 => (some t403)) else (none)) else (none)) else (none))) else (none)) else (none)))
end
def watchmanlaw08_BoardPass.f (k : Nat) (a0_0 : Int) (a0_1 : Int) (l0_2 : List (S28)) (a1 : Int) (a2 : Int) : Option (Bool) := (watchmanlaw08_far.f a0_0 a0_1 l0_2).bind fun t362 => (if t362 = true then (some true) else ((board_Pass.f k a0_0 a0_1 l0_2 a1).bind fun bt363 => ((board_Pass.f k bt363.1 bt363.2.1 bt363.2.2.1 a2).bind fun bt370 => ((board_Pass.f k a0_0 a0_1 l0_2 a2).bind fun bt377 => (if bt363.2.2.2 = 0 then (watchmanlaw08_BoardPass.j0 k a2 bt363.2.2.2 bt370.2.2.2 bt377.2.2.2 (bt370.2.2.2 != 0) a0_0 a0_1 l0_2 bt370.1 bt370.2.1 bt370.2.2.1 bt377.1 bt377.2.1 bt377.2.2.1) else (watchmanlaw08_BoardPass.j0 k a2 bt363.2.2.2 bt370.2.2.2 bt377.2.2.2 true a0_0 a0_1 l0_2 bt370.1 bt370.2.1 bt370.2.2.1 bt377.1 bt377.2.1 bt377.2.2.1))))))
theorem watchmanlaw08_BoardPass.mono_l : ∀ k, (∀ y0 y1 y2 y3 y4 y5 y6 y7 y8 y9 y10 y11 y12 y13, LeO (watchmanlaw08_BoardPass.j0 k y0 y1 y2 y3 y4 y5 y6 y7 y8 y9 y10 y11 y12 y13) (watchmanlaw08_BoardPass.j0 (k + 1) y0 y1 y2 y3 y4 y5 y6 y7 y8 y9 y10 y11 y12 y13)) ∧ (∀ y0 y1 y2 y3 y4 y5 y6 y7 y8 y9 y10 y11, LeO (watchmanlaw08_BoardPass.l0 k y0 y1 y2 y3 y4 y5 y6 y7 y8 y9 y10 y11) (watchmanlaw08_BoardPass.l0 (k + 1) y0 y1 y2 y3 y4 y5 y6 y7 y8 y9 y10 y11))
  | 0 => ⟨fun _ _ _ _ _ _ _ _ _ _ _ _ _ _ r h => by simp [watchmanlaw08_BoardPass.j0] at h, fun _ _ _ _ _ _ _ _ _ _ _ _ r h => by simp [watchmanlaw08_BoardPass.l0] at h⟩
  | k + 1 => by
    obtain ⟨ih0, ih1⟩ := watchmanlaw08_BoardPass.mono_l k
    refine ⟨?_, ?_⟩
    · intro y0 y1 y2 y3 y4 y5 y6 y7 y8 y9 y10 y11 y12 y13
      unfold watchmanlaw08_BoardPass.j0
      repeat' first
      | (with_reducible exact ih0 _ _ _ _ _ _ _ _ _ _ _ _ _ _)
      | (with_reducible exact ih1 _ _ _ _ _ _ _ _ _ _ _ _)
      | (with_reducible exact alarm_Pass.mono _ _ _ _ _ _ _ _)
      | (with_reducible exact board_Is.mono _ _ _ _)
      | (with_reducible exact board_Pass.mono _ _ _ _ _)
      | (with_reducible exact watchmanlaw08_boards.mono _)
      | (with_reducible exact watchmanref08_Same.mono _ _ _ _ _ _ _)
      | (with_reducible exact LeO.refl _)
      | (with_reducible exact LeO.none _)
      | (with_reducible refine LeO.ite ?_ ?_)
      | (with_reducible refine LeO.bind ?_ (fun _ => ?_))
      | exact ih0 _ _ _ _ _ _ _ _ _ _ _ _ _ _
      | exact ih1 _ _ _ _ _ _ _ _ _ _ _ _
      | exact alarm_Pass.mono _ _ _ _ _ _ _ _
      | exact board_Is.mono _ _ _ _
      | exact board_Pass.mono _ _ _ _ _
      | exact watchmanlaw08_boards.mono _
      | exact watchmanref08_Same.mono _ _ _ _ _ _ _
      | exact LeO.none _
      | refine LeO.ite ?_ ?_
      | refine LeO.bind ?_ (fun _ => ?_)
    · intro y0 y1 y2 y3 y4 y5 y6 y7 y8 y9 y10 y11
      unfold watchmanlaw08_BoardPass.l0
      repeat' first
      | (with_reducible exact ih0 _ _ _ _ _ _ _ _ _ _ _ _ _ _)
      | (with_reducible exact ih1 _ _ _ _ _ _ _ _ _ _ _ _)
      | (with_reducible exact alarm_Pass.mono _ _ _ _ _ _ _ _)
      | (with_reducible exact board_Is.mono _ _ _ _)
      | (with_reducible exact board_Pass.mono _ _ _ _ _)
      | (with_reducible exact watchmanlaw08_boards.mono _)
      | (with_reducible exact watchmanref08_Same.mono _ _ _ _ _ _ _)
      | (with_reducible exact LeO.refl _)
      | (with_reducible exact LeO.none _)
      | (with_reducible refine LeO.ite ?_ ?_)
      | (with_reducible refine LeO.bind ?_ (fun _ => ?_))
      | exact ih0 _ _ _ _ _ _ _ _ _ _ _ _ _ _
      | exact ih1 _ _ _ _ _ _ _ _ _ _ _ _
      | exact alarm_Pass.mono _ _ _ _ _ _ _ _
      | exact board_Is.mono _ _ _ _
      | exact board_Pass.mono _ _ _ _ _
      | exact watchmanlaw08_boards.mono _
      | exact watchmanref08_Same.mono _ _ _ _ _ _ _
      | exact LeO.none _
      | refine LeO.ite ?_ ?_
      | refine LeO.bind ?_ (fun _ => ?_)
theorem watchmanlaw08_BoardPass.mono : ∀ a0 a1 a2 a3 a4 k, LeO (watchmanlaw08_BoardPass.f k a0 a1 a2 a3 a4) (watchmanlaw08_BoardPass.f (k + 1) a0 a1 a2 a3 a4) := by
  intro a0 a1 a2 a3 a4 k
  obtain ⟨ih0, ih1⟩ := watchmanlaw08_BoardPass.mono_l k
  unfold watchmanlaw08_BoardPass.f
  repeat' first
      | (with_reducible exact ih0 _ _ _ _ _ _ _ _ _ _ _ _ _ _)
      | (with_reducible exact ih1 _ _ _ _ _ _ _ _ _ _ _ _)
      | (with_reducible exact alarm_Pass.mono _ _ _ _ _ _ _ _)
      | (with_reducible exact board_Is.mono _ _ _ _)
      | (with_reducible exact board_Pass.mono _ _ _ _ _)
      | (with_reducible exact watchmanlaw08_boards.mono _)
      | (with_reducible exact watchmanref08_Same.mono _ _ _ _ _ _ _)
      | (with_reducible exact LeO.refl _)
      | (with_reducible exact LeO.none _)
      | (with_reducible refine LeO.ite ?_ ?_)
      | (with_reducible refine LeO.bind ?_ (fun _ => ?_))
      | exact ih0 _ _ _ _ _ _ _ _ _ _ _ _ _ _
      | exact ih1 _ _ _ _ _ _ _ _ _ _ _ _
      | exact alarm_Pass.mono _ _ _ _ _ _ _ _
      | exact board_Is.mono _ _ _ _
      | exact board_Pass.mono _ _ _ _ _
      | exact watchmanlaw08_boards.mono _
      | exact watchmanref08_Same.mono _ _ _ _ _ _ _
      | exact LeO.none _
      | refine LeO.ite ?_ ?_
      | refine LeO.bind ?_ (fun _ => ?_)
def watchmanlaw08_BoardPass.T11 : Bool × List (List Nat × List Nat) := (true, [([], []), ([], []), ([1], [1]), ([], []), ([2, 3], [2, 3]), ([4], [4]), ([5], [5]), ([0, 6], [0, 6]), ([7], [7]), ([8], [8]), ([8], [8]), ([], []), ([11, 9, 7, 0, 1, 2, 3, 4, 5, 6, 7, 8, 9, 11], [9, 11]), ([10, 12, 0, 1, 2, 3, 4, 5, 6, 7, 8, 9, 10, 11, 12], [10])])
def watchmanlaw08_BoardPass.B11 : List Nat := [0, 0, 2, 0, 14, 30, 62, 127, 255, 511, 511, 0, 3071, 8191]
theorem watchmanlaw08_BoardPass.tab11 : rtab .any (opsOf Try.f5 11) = watchmanlaw08_BoardPass.T11 := by kernel_rfl
theorem watchmanlaw08_BoardPass.bits11 : waitsOk watchmanlaw08_BoardPass.T11.2 watchmanlaw08_BoardPass.B11 = true := by kernel_rfl
def watchmanlaw08_BoardPass.T12 : Bool × List (List Nat × List Nat) := (true, [([], []), ([0], [0]), ([1], [1]), ([2], [2]), ([2], [2]), ([4, 2], [2, 4]), ([2], [2]), ([5, 6, 2], [2, 5, 6]), ([7, 2], [2, 7]), ([2], [2]), ([8, 9, 2, 2], [2, 8, 9]), ([3, 10, 2], [2, 3, 10]), ([2, 11], [2, 11])])
def watchmanlaw08_BoardPass.B12 : List Nat := [0, 1, 3, 7, 7, 23, 7, 119, 247, 7, 1015, 2047, 4095]
theorem watchmanlaw08_BoardPass.tab12 : rtab .any (opsOf Try.f5 12) = watchmanlaw08_BoardPass.T12 := by kernel_rfl
theorem watchmanlaw08_BoardPass.bits12 : waitsOk watchmanlaw08_BoardPass.T12.2 watchmanlaw08_BoardPass.B12 = true := by kernel_rfl
set_option maxHeartbeats 8000000 in
set_option maxRecDepth 100000 in
theorem watchmanlaw08_BoardPass.calls (k : Nat) (a0_0 : Int) (a0_1 : Int) (A0_2 : Option Addr) (c0_2 : Nat) (l0_2 : List (S28)) (a1 : Int) (a2 : Int) (r : Bool) (w : World) (hr0_2 : Kd.C k28 w A0_2 l0_2.length l0_2) (hc0_2 : l0_2.length ≤ c0_2) (h : watchmanlaw08_BoardPass.f k a0_0 a0_1 l0_2 a1 a2 = some r) :
    Calls Try.prog 5 #[.agg #[.int .i64 a0_0, .int .i64 a0_1, .slice A0_2 l0_2.length c0_2], .int .i64 a1, .int .i64 a2] w fun e w' => e = .returned (.bool r) ∧ Below w.heap.size w w' := by
  have hu24 := Try.underlying24
  have hu26 := Try.underlying26
  have hu28 := Try.underlying28
  have HR0_2 := Aside0.mk hr0_2
  have HC0_2 := Aside0.mk hc0_2
  clear hr0_2 hc0_2
  have HB := Aside0.mk (Below.refl w.heap.size w)
  have H : ((watchmanlaw08_far.f a0_0 a0_1 l0_2).bind fun t362 => (if t362 = true then (some true) else ((board_Pass.f k a0_0 a0_1 l0_2 a1).bind fun bt363 => ((board_Pass.f k bt363.1 bt363.2.1 bt363.2.2.1 a2).bind fun bt370 => ((board_Pass.f k a0_0 a0_1 l0_2 a2).bind fun bt377 => (if bt363.2.2.2 = 0 then (watchmanlaw08_BoardPass.j0 k a2 bt363.2.2.2 bt370.2.2.2 bt377.2.2.2 (bt370.2.2.2 != 0) a0_0 a0_1 l0_2 bt370.1 bt370.2.1 bt370.2.2.1 bt377.1 bt377.2.1 bt377.2.2.1) else (watchmanlaw08_BoardPass.j0 k a2 bt363.2.2.2 bt370.2.2.2 bt377.2.2.2 true a0_0 a0_1 l0_2 bt370.1 bt370.2.1 bt370.2.2.1 bt377.1 bt377.2.1 bt377.2.2.1))))))) = some r := h
  clear h
  replace H := Option.bind_eq_some_iff.mp H
  obtain ⟨t362, A40, H⟩ := H
  replace H : (if t362 = true then (some true) else ((board_Pass.f k a0_0 a0_1 l0_2 a1).bind fun bt363 => ((board_Pass.f k bt363.1 bt363.2.1 bt363.2.2.1 a2).bind fun bt370 => ((board_Pass.f k a0_0 a0_1 l0_2 a2).bind fun bt377 => (if bt363.2.2.2 = 0 then (watchmanlaw08_BoardPass.j0 k a2 bt363.2.2.2 bt370.2.2.2 bt377.2.2.2 (bt370.2.2.2 != 0) a0_0 a0_1 l0_2 bt370.1 bt370.2.1 bt370.2.2.1 bt377.1 bt377.2.1 bt377.2.2.1) else (watchmanlaw08_BoardPass.j0 k a2 bt363.2.2.2 bt370.2.2.2 bt377.2.2.2 true a0_0 a0_1 l0_2 bt370.1 bt370.2.1 bt370.2.2.1 bt377.1 bt377.2.1 bt377.2.2.1)))))) = some r := H
  have A4 := Aside0.mk A40
  clear A40
  by_cases c5 : t362 = true
  · subst c5
    have H1 : (some true) = some r := by rw [if_pos rfl] at H; exact H
    clear H
    have H := H1
    clear H1
    obtain rfl := Option.some.inj H
    go_enter Try.func5, Try.ntmps5
    go_wp2_with (first | ((with_reducible refine gate_dst (N := 3) rfl ?_); (try (refine gate_guard (by rfl) ?_; dsimp only)); refine box_event ?hg (N := 3) ?hd (cs := #[.int .i64 a0_0, .int .i64 a0_1, .slice A0_2 l0_2.length c0_2]) (t := 24) ?hr ?_; (case hd => rfl); (case hg => rfl); (case hr => first | (go_simp; done) | (go_simp; rfl)); intro gb361 hg w6 hbox hb; have n0_ := Aside0.mk (below_step HB.out hb); have n1_ := Aside0.mk (hbox); have n2_ := Aside0.mk ((by rw [hg]; exact (below_size HB.out) : w.heap.size ≤ gb361)); have n3_ := Aside0.mk ((by rw [hg]; exact (below_size HB.out) : w.heap.size ≤ gb361)); clear HB; have HB := n0_; have BK361 := n1_; have GW361 := n2_; have GE361 := n3_; clear n0_ n1_ n2_ n3_; clear hb hbox hg; have hcz7_0 : w6.cell? ⟨gb361, 0, none⟩ = some (.int .i64 a0_0) := (blk_cell BK361.out 0).trans rfl; have hcz7_1 : w6.cell? ⟨gb361, 1, none⟩ = some (.int .i64 a0_1) := (blk_cell BK361.out 1).trans rfl; have hcz7_2 : w6.cell? ⟨gb361, 2, none⟩ = some (.slice A0_2 l0_2.length c0_2) := (blk_cell BK361.out 2).trans rfl; have hfz7_0 := blk_frozen BK361.out 0; have hfz7_1 := blk_frozen BK361.out 1; have hfz7_2 := blk_frozen BK361.out 2) | ((with_reducible refine gate_callee (f := 13) rfl ?_); refine goesL_ (some 17) rfl rfl Try.func13 (by kernel_rfl) rfl #[.agg #[.int .i64 a0_0, .int .i64 a0_1, .slice A0_2 l0_2.length c0_2]] rfl (by (try simp only [List.map_toArray, List.map_cons, List.map_nil]); first | done | rfl | (simp only [List.length_drop, List.length_take]; rfl)) ?_; (with_reducible refine (watchmanlaw08_far.calls a0_0 a0_1 _ _ l0_2 true _ ?side1 ?side2 A4.out).mono ?_); (case side1 => exact (Kd.C_below HR0_2.out HB.out)); (case side2 => exact HC0_2.out); rintro e w8 ⟨rfl, hb⟩; refine ⟨_, rfl, ?_⟩; have n0_ := Aside0.mk (blk_below BK361.out hb); have n1_ := Aside0.mk (below_step (by repeat (with_reducible first | exact HB.out | apply pw_below_drewN | apply below_drew1 | refine below_set ?_ GE361.out)) hb); clear BK361; clear HB; have BK361 := n0_; have HB := n1_; clear n0_ n1_; (try clear hb); (try clear hb2); (try clear hk); (try clear hi)))
    go_ret
    exact ⟨by first | rfl | (simp [errW_none, errW_some] <;> rfl) | (simp [*, errW_none, errW_some] <;> rfl), by repeat (with_reducible first | exact HB.out | apply pw_below_drewN | apply below_drew1 | refine below_set ?_ GE361.out)⟩
  · replace c5 := Bool.eq_false_iff.mpr c5
    subst c5
    have H1 : ((board_Pass.f k a0_0 a0_1 l0_2 a1).bind fun bt363 => ((board_Pass.f k bt363.1 bt363.2.1 bt363.2.2.1 a2).bind fun bt370 => ((board_Pass.f k a0_0 a0_1 l0_2 a2).bind fun bt377 => (if bt363.2.2.2 = 0 then (watchmanlaw08_BoardPass.j0 k a2 bt363.2.2.2 bt370.2.2.2 bt377.2.2.2 (bt370.2.2.2 != 0) a0_0 a0_1 l0_2 bt370.1 bt370.2.1 bt370.2.2.1 bt377.1 bt377.2.1 bt377.2.2.1) else (watchmanlaw08_BoardPass.j0 k a2 bt363.2.2.2 bt370.2.2.2 bt377.2.2.2 true a0_0 a0_1 l0_2 bt370.1 bt370.2.1 bt370.2.2.1 bt377.1 bt377.2.1 bt377.2.2.1))))) = some r := by rw [if_neg (show ¬ (false = true) by decide)] at H; exact H
    clear H
    have H := H1
    clear H1
    replace H := Option.bind_eq_some_iff.mp H
    obtain ⟨⟨t363, t364, t365, t368⟩, A90, H⟩ := H
    replace H : ((board_Pass.f k t363 t364 t365 a2).bind fun bt370 => ((board_Pass.f k a0_0 a0_1 l0_2 a2).bind fun bt377 => (if t368 = 0 then (watchmanlaw08_BoardPass.j0 k a2 t368 bt370.2.2.2 bt377.2.2.2 (bt370.2.2.2 != 0) a0_0 a0_1 l0_2 bt370.1 bt370.2.1 bt370.2.2.1 bt377.1 bt377.2.1 bt377.2.2.1) else (watchmanlaw08_BoardPass.j0 k a2 t368 bt370.2.2.2 bt377.2.2.2 true a0_0 a0_1 l0_2 bt370.1 bt370.2.1 bt370.2.2.1 bt377.1 bt377.2.1 bt377.2.2.1)))) = some r := H
    have A9 := Aside0.mk A90
    clear A90
    replace H := Option.bind_eq_some_iff.mp H
    obtain ⟨⟨t370, t371, t372, t375⟩, A100, H⟩ := H
    replace H : ((board_Pass.f k a0_0 a0_1 l0_2 a2).bind fun bt377 => (if t368 = 0 then (watchmanlaw08_BoardPass.j0 k a2 t368 t375 bt377.2.2.2 (t375 != 0) a0_0 a0_1 l0_2 t370 t371 t372 bt377.1 bt377.2.1 bt377.2.2.1) else (watchmanlaw08_BoardPass.j0 k a2 t368 t375 bt377.2.2.2 true a0_0 a0_1 l0_2 t370 t371 t372 bt377.1 bt377.2.1 bt377.2.2.1))) = some r := H
    have A10 := Aside0.mk A100
    clear A100
    replace H := Option.bind_eq_some_iff.mp H
    obtain ⟨⟨t377, t378, t379, t382⟩, A110, H⟩ := H
    replace H : (if t368 = 0 then (watchmanlaw08_BoardPass.j0 k a2 t368 t375 t382 (t375 != 0) a0_0 a0_1 l0_2 t370 t371 t372 t377 t378 t379) else (watchmanlaw08_BoardPass.j0 k a2 t368 t375 t382 true a0_0 a0_1 l0_2 t370 t371 t372 t377 t378 t379)) = some r := H
    have A11 := Aside0.mk A110
    clear A110
    have HC12 := Aside0.mk H
    clear H
    go_enter Try.func5, Try.ntmps5
    go_upto_region 6 with (first | ((with_reducible refine gate_dst (N := 3) rfl ?_); (try (refine gate_guard (by rfl) ?_; dsimp only)); refine box_event ?hg (N := 3) ?hd (cs := #[.int .i64 a0_0, .int .i64 a0_1, .slice A0_2 l0_2.length c0_2]) (t := 24) ?hr ?_; (case hd => rfl); (case hg => rfl); (case hr => first | (go_simp; done) | (go_simp; rfl)); intro gb361 hg w13 hbox hb; have n0_ := Aside0.mk (below_step HB.out hb); have n1_ := Aside0.mk (hbox); have n2_ := Aside0.mk ((by rw [hg]; exact (below_size HB.out) : w.heap.size ≤ gb361)); have n3_ := Aside0.mk ((by rw [hg]; exact (below_size HB.out) : w.heap.size ≤ gb361)); clear HB; have HB := n0_; have BK361 := n1_; have GW361 := n2_; have GE361 := n3_; clear n0_ n1_ n2_ n3_; clear hb hbox hg; have hcz14_0 : w13.cell? ⟨gb361, 0, none⟩ = some (.int .i64 a0_0) := (blk_cell BK361.out 0).trans rfl; have hcz14_1 : w13.cell? ⟨gb361, 1, none⟩ = some (.int .i64 a0_1) := (blk_cell BK361.out 1).trans rfl; have hcz14_2 : w13.cell? ⟨gb361, 2, none⟩ = some (.slice A0_2 l0_2.length c0_2) := (blk_cell BK361.out 2).trans rfl; have hfz14_0 := blk_frozen BK361.out 0; have hfz14_1 := blk_frozen BK361.out 1; have hfz14_2 := blk_frozen BK361.out 2) | ((with_reducible refine gate_callee (f := 13) rfl ?_); refine goesL_ (some 17) rfl rfl Try.func13 (by kernel_rfl) rfl #[.agg #[.int .i64 a0_0, .int .i64 a0_1, .slice A0_2 l0_2.length c0_2]] rfl (by (try simp only [List.map_toArray, List.map_cons, List.map_nil]); first | done | rfl | (simp only [List.length_drop, List.length_take]; rfl)) ?_; (with_reducible refine (watchmanlaw08_far.calls a0_0 a0_1 _ _ l0_2 false _ ?side1 ?side2 A4.out).mono ?_); (case side1 => exact (Kd.C_below HR0_2.out HB.out)); (case side2 => exact HC0_2.out); rintro e w15 ⟨rfl, hb⟩; refine ⟨_, rfl, ?_⟩; have n0_ := Aside0.mk (blk_below BK361.out hb); have n1_ := Aside0.mk (below_step (by repeat (with_reducible first | exact HB.out | apply pw_below_drewN | apply below_drew1 | refine below_set ?_ GE361.out)) hb); clear BK361; clear HB; have BK361 := n0_; have HB := n1_; clear n0_ n1_; (try clear hb); (try clear hb2); (try clear hk); (try clear hi); have hcz16_0 : w15.cell? ⟨gb361, 0, none⟩ = some (.int .i64 a0_0) := (blk_cell BK361.out 0).trans rfl; have hcz16_1 : w15.cell? ⟨gb361, 1, none⟩ = some (.int .i64 a0_1) := (blk_cell BK361.out 1).trans rfl; have hcz16_2 : w15.cell? ⟨gb361, 2, none⟩ = some (.slice A0_2 l0_2.length c0_2) := (blk_cell BK361.out 2).trans rfl; have hfz16_0 := blk_frozen BK361.out 0; have hfz16_1 := blk_frozen BK361.out 1; have hfz16_2 := blk_frozen BK361.out 2) | ((with_reducible refine gate_callee (f := 19) rfl ?_); refine goesL_ (some 21) rfl rfl Try.func19 (by kernel_rfl) rfl #[.agg #[.int .i64 a0_0, .int .i64 a0_1, .slice A0_2 l0_2.length c0_2], .int .i64 a1] rfl (by (try simp only [List.map_toArray, List.map_cons, List.map_nil]); first | done | rfl | (simp only [List.length_drop, List.length_take]; rfl)) ?_; (with_reducible refine (board_Pass.calls k a0_0 a0_1 _ _ l0_2 a1 t363 t364 t365 t368 _ ?side1 ?side2 A9.out).mono ?_); (case side1 => exact (Kd.C_below HR0_2.out HB.out)); (case side2 => exact HC0_2.out); (try clear A9); rintro e w17 ⟨v366, rfl, ho0, hb⟩; refine ⟨_, rfl, ?_⟩; have n0_ := Aside0.mk (Kd.R_lower ho0 (below_size (by repeat (with_reducible first | exact HB.out | apply pw_below_drewN | apply below_drew1 | refine below_set ?_ GE361.out)))); have n1_ := Aside0.mk (blk_below BK361.out hb); have n2_ := Aside0.mk (below_step (by repeat (with_reducible first | exact HB.out | apply pw_below_drewN | apply below_drew1 | refine below_set ?_ GE361.out)) hb); clear BK361; clear HB; have HO367 := n0_; have BK361 := n1_; have HB := n2_; clear n0_ n1_ n2_; (try clear hb); (try clear hb2); (try clear hk); (try clear hi); (try clear ho0)) | ((with_reducible refine gate_dst (N := 7) rfl ?_); (try (refine gate_guard (by rfl) ?_; dsimp only)); refine box_event ?hg (N := 7) ?hd (cs := #[.int .i64 0, .int .i64 0, .slice none 0 0]) (t := 24) ?hr ?_; (case hd => rfl); (case hg => rfl); (case hr => first | (go_simp; done) | (go_simp; rfl)); intro gb369 hg w18 hbox hb; have n0_ := Aside0.mk (Kd.R_below (HO367.out) hb); have n1_ := Aside0.mk (blk_below BK361.out hb); have n2_ := Aside0.mk (below_step (by repeat (with_reducible first | exact HB.out | apply pw_below_drewN | apply below_drew1 | refine below_set ?_ GE361.out)) hb); have n3_ := Aside0.mk (hbox); have n4_ := Aside0.mk ((by rw [hg]; exact (below_size (by repeat (with_reducible first | exact HB.out | apply pw_below_drewN | apply below_drew1 | refine below_set ?_ GE361.out))) : w.heap.size ≤ gb369)); have n5_ := Aside0.mk ((by rw [hg]; exact (below_size (by repeat (with_reducible first | exact HB.out | apply pw_below_drewN | apply below_drew1 | refine below_set ?_ GE361.out))) : w.heap.size ≤ gb369)); have n6_ := Aside0.mk ((by rw [hg]; exact Nat.ne_of_lt (blk_lt BK361.out) : gb361 ≠ gb369)); have n7_ := Aside0.mk ((by rw [hg]; exact Nat.ne_of_gt (blk_lt BK361.out) : gb369 ≠ gb361)); clear HO367; clear BK361; clear HB; have HO367 := n0_; have BK361 := n1_; have HB := n2_; have BK369 := n3_; have GW369 := n4_; have GE369 := n5_; have NB361_369 := n6_; have NB369_361 := n7_; clear n0_ n1_ n2_ n3_ n4_ n5_ n6_ n7_; clear hb hbox hg; have hnb19 := NB369_361.out; have hnc19 := NB361_369.out; have hcz20_0 : w18.cell? ⟨gb369, 0, none⟩ = some (.int .i64 0) := (blk_cell BK369.out 0).trans rfl; have hcz20_1 : w18.cell? ⟨gb369, 1, none⟩ = some (.int .i64 0) := (blk_cell BK369.out 1).trans rfl; have hcz20_2 : w18.cell? ⟨gb369, 2, none⟩ = some (.slice none 0 0) := (blk_cell BK369.out 2).trans rfl; have hfz20_0 := blk_frozen BK369.out 0; have hfz20_1 := blk_frozen BK369.out 1; have hfz20_2 := blk_frozen BK369.out 2; obtain ⟨Ao21, co21, eo21⟩ := Kd.R_slice HO367.out; subst eo21) | ((with_reducible refine gate_callee (f := 19) rfl ?_); refine goesL_ (some 27) rfl rfl Try.func19 (by kernel_rfl) rfl #[.agg #[.int .i64 t363, .int .i64 t364, .slice Ao21 t365.length co21], .int .i64 a2] rfl (by (try simp only [List.map_toArray, List.map_cons, List.map_nil]); first | done | rfl | (simp only [List.length_drop, List.length_take]; rfl)) ?_; (with_reducible refine (board_Pass.calls k t363 t364 _ _ t365 a2 t370 t371 t372 t375 _ ?side1 ?side2 A10.out).mono ?_); (case side1 => refine (Kd.R_reads' (e := 28) (base := w.heap.size) (ok := fun k_ => True) (n := t365.length) (c := co21) ?_).2.2; exact (by (with_reducible repeat (first | apply Kd.R_alloc | apply Kd.R_drewN | apply Kd.R_drew)); exact (Kd.R_mono (Kd.R_far (p := ⟨gb369, 2, none⟩) (Kd.R_far (p := ⟨gb369, 1, none⟩) (Kd.R_far (p := ⟨gb369, 0, none⟩) (Kd.R_types HO367.out BK369.out (by decide)) (fun _ hk => hk.2) (.int .i64 t363)) (fun _ hk => hk.2) (.int .i64 t364)) (fun _ hk => hk.2) (.slice Ao21 t365.length co21)) (fun _ h_ => h_.1)))); (case side2 => exact (Kd.R_reads' HO367.out).2.1); (try clear A10); rintro e w22 ⟨v373, rfl, ho0, hb⟩; refine ⟨_, rfl, ?_⟩; have n0_ := Aside0.mk (Kd.R_elder' (by (with_reducible repeat (first | apply Kd.R_alloc | apply Kd.R_drewN | apply Kd.R_drew)); exact (Kd.R_mono (Kd.R_far (p := ⟨gb369, 2, none⟩) (Kd.R_far (p := ⟨gb369, 1, none⟩) (Kd.R_far (p := ⟨gb369, 0, none⟩) (Kd.R_types HO367.out BK369.out (by decide)) (fun _ hk => hk.2) (.int .i64 t363)) (fun _ hk => hk.2) (.int .i64 t364)) (fun _ hk => hk.2) (.slice Ao21 t365.length co21)) (fun _ h_ => h_.1))) (Kd.R_base ho0) hb); have n1_ := Aside0.mk (Kd.R_lower (Kd.R_new' ho0 (Kd.R_lt (by (with_reducible repeat (first | apply Kd.R_alloc | apply Kd.R_drewN | apply Kd.R_drew)); exact (Kd.R_mono (Kd.R_far (p := ⟨gb369, 2, none⟩) (Kd.R_far (p := ⟨gb369, 1, none⟩) (Kd.R_far (p := ⟨gb369, 0, none⟩) (Kd.R_types HO367.out BK369.out (by decide)) (fun _ hk => hk.2) (.int .i64 t363)) (fun _ hk => hk.2) (.int .i64 t364)) (fun _ hk => hk.2) (.slice Ao21 t365.length co21)) (fun _ h_ => h_.1))))) (below_size (by repeat (with_reducible first | exact HB.out | apply pw_below_drewN | apply below_drew1 | refine below_set ?_ GE361.out | refine below_set ?_ GE369.out)))); have n2_ := Aside0.mk (blk_below (g := gb361) (o := .cells #[.int .i64 a0_0, .int .i64 a0_1, .slice A0_2 l0_2.length c0_2] 24 (0, 0)) (by refine blk_far ?_ NB361_369.out _; refine blk_far ?_ NB361_369.out _; refine blk_far ?_ NB361_369.out _; exact BK361.out) hb); have n3_ := Aside0.mk (blk_below (g := gb369) (o := .cells #[.int .i64 t363, .int .i64 t364, .slice Ao21 t365.length co21] 24 (0, 0)) (by refine blk_put (cs := #[.int .i64 t363, .int .i64 t364, .slice none 0 0]) ?_ 2 _ rfl; refine blk_put (cs := #[.int .i64 t363, .int .i64 0, .slice none 0 0]) ?_ 1 _ rfl; refine blk_put (cs := #[.int .i64 0, .int .i64 0, .slice none 0 0]) ?_ 0 _ rfl; exact BK369.out) hb); have n4_ := Aside0.mk (below_step (by repeat (with_reducible first | exact HB.out | apply pw_below_drewN | apply below_drew1 | refine below_set ?_ GE361.out | refine below_set ?_ GE369.out)) hb); clear HO367; clear BK361; clear BK369; clear HB; have HO367 := n0_; have HO374 := n1_; have BK361 := n2_; have BK369 := n3_; have HB := n4_; clear n0_ n1_ n2_ n3_ n4_; (try clear hb); (try clear hb2); (try clear hk); (try clear hi); (try clear ho0)) | ((with_reducible refine gate_dst (N := 9) rfl ?_); (try (refine gate_guard (by rfl) ?_; dsimp only)); refine box_event ?hg (N := 9) ?hd (cs := #[.int .i64 0, .int .i64 0, .slice none 0 0]) (t := 24) ?hr ?_; (case hd => rfl); (case hg => rfl); (case hr => first | (go_simp; done) | (go_simp; rfl)); intro gb376 hg w23 hbox hb; have n0_ := Aside0.mk (Kd.R_below (HO367.out) hb); have n1_ := Aside0.mk (Kd.R_below (HO374.out) hb); have n2_ := Aside0.mk (blk_below BK361.out hb); have n3_ := Aside0.mk (blk_below BK369.out hb); have n4_ := Aside0.mk (below_step (by repeat (with_reducible first | exact HB.out | apply pw_below_drewN | apply below_drew1 | refine below_set ?_ GE361.out | refine below_set ?_ GE369.out)) hb); have n5_ := Aside0.mk (hbox); have n6_ := Aside0.mk ((by rw [hg]; exact (below_size (by repeat (with_reducible first | exact HB.out | apply pw_below_drewN | apply below_drew1 | refine below_set ?_ GE361.out | refine below_set ?_ GE369.out))) : w.heap.size ≤ gb376)); have n7_ := Aside0.mk ((by rw [hg]; exact (below_size (by repeat (with_reducible first | exact HB.out | apply pw_below_drewN | apply below_drew1 | refine below_set ?_ GE361.out | refine below_set ?_ GE369.out))) : w.heap.size ≤ gb376)); have n8_ := Aside0.mk ((by rw [hg]; exact Nat.ne_of_lt (blk_lt BK361.out) : gb361 ≠ gb376)); have n9_ := Aside0.mk ((by rw [hg]; exact Nat.ne_of_gt (blk_lt BK361.out) : gb376 ≠ gb361)); have n10_ := Aside0.mk ((by rw [hg]; exact Nat.ne_of_lt (blk_lt BK369.out) : gb369 ≠ gb376)); have n11_ := Aside0.mk ((by rw [hg]; exact Nat.ne_of_gt (blk_lt BK369.out) : gb376 ≠ gb369)); clear HO367; clear HO374; clear BK361; clear BK369; clear HB; have HO367 := n0_; have HO374 := n1_; have BK361 := n2_; have BK369 := n3_; have HB := n4_; have BK376 := n5_; have GW376 := n6_; have GE376 := n7_; have NB361_376 := n8_; have NB376_361 := n9_; have NB369_376 := n10_; have NB376_369 := n11_; clear n0_ n1_ n2_ n3_ n4_ n5_ n6_ n7_ n8_ n9_ n10_ n11_; clear hb hbox hg; have hnb24 := NB376_361.out; have hnc24 := NB361_376.out; have hnb25 := NB376_369.out; have hnc25 := NB369_376.out; have hcz26_0 : w23.cell? ⟨gb376, 0, none⟩ = some (.int .i64 0) := (blk_cell BK376.out 0).trans rfl; have hcz26_1 : w23.cell? ⟨gb376, 1, none⟩ = some (.int .i64 0) := (blk_cell BK376.out 1).trans rfl; have hcz26_2 : w23.cell? ⟨gb376, 2, none⟩ = some (.slice none 0 0) := (blk_cell BK376.out 2).trans rfl; have hfz26_0 := blk_frozen BK376.out 0; have hfz26_1 := blk_frozen BK376.out 1; have hfz26_2 := blk_frozen BK376.out 2; obtain ⟨Ao27, co27, eo27⟩ := Kd.R_slice HO374.out; subst eo27; have hcz28_0 : w23.cell? ⟨gb361, 0, none⟩ = some (.int .i64 a0_0) := (blk_cell BK361.out 0).trans rfl; have hcz28_1 : w23.cell? ⟨gb361, 1, none⟩ = some (.int .i64 a0_1) := (blk_cell BK361.out 1).trans rfl; have hcz28_2 : w23.cell? ⟨gb361, 2, none⟩ = some (.slice A0_2 l0_2.length c0_2) := (blk_cell BK361.out 2).trans rfl; have hfz28_0 := blk_frozen BK361.out 0; have hfz28_1 := blk_frozen BK361.out 1; have hfz28_2 := blk_frozen BK361.out 2) | ((with_reducible refine gate_callee (f := 19) rfl ?_); refine goesL_ (some 33) rfl rfl Try.func19 (by kernel_rfl) rfl #[.agg #[.int .i64 a0_0, .int .i64 a0_1, .slice A0_2 l0_2.length c0_2], .int .i64 a2] rfl (by (try simp only [List.map_toArray, List.map_cons, List.map_nil]); first | done | rfl | (simp only [List.length_drop, List.length_take]; rfl)) ?_; (with_reducible refine (board_Pass.calls k a0_0 a0_1 _ _ l0_2 a2 t377 t378 t379 t382 _ ?side1 ?side2 A11.out).mono ?_); (case side1 => exact Kd.C_below HR0_2.out (by repeat (with_reducible first | exact HB.out | apply pw_below_drewN | apply below_drew1 | refine below_set ?_ GE361.out | refine below_set ?_ GE369.out | refine below_set ?_ GE376.out))); (case side2 => exact HC0_2.out); (try clear A11); rintro e w29 ⟨v380, rfl, ho0, hb⟩; refine ⟨_, rfl, ?_⟩; have n0_ := Aside0.mk (Kd.R_elder' (by (with_reducible repeat (first | apply Kd.R_alloc | apply Kd.R_drewN | apply Kd.R_drew)); exact (Kd.R_mono (Kd.R_far (p := ⟨gb376, 2, none⟩) (Kd.R_far (p := ⟨gb376, 1, none⟩) (Kd.R_far (p := ⟨gb376, 0, none⟩) (Kd.R_types HO367.out BK376.out (by decide)) (fun _ hk => hk.2) (.int .i64 t370)) (fun _ hk => hk.2) (.int .i64 t371)) (fun _ hk => hk.2) (.slice Ao27 t372.length co27)) (fun _ h_ => h_.1))) (Kd.R_base ho0) hb); have n1_ := Aside0.mk (Kd.R_elder' (by (with_reducible repeat (first | apply Kd.R_alloc | apply Kd.R_drewN | apply Kd.R_drew)); exact (Kd.R_mono (Kd.R_far (p := ⟨gb376, 2, none⟩) (Kd.R_far (p := ⟨gb376, 1, none⟩) (Kd.R_far (p := ⟨gb376, 0, none⟩) (Kd.R_types HO374.out BK376.out (by decide)) (fun _ hk => hk.2) (.int .i64 t370)) (fun _ hk => hk.2) (.int .i64 t371)) (fun _ hk => hk.2) (.slice Ao27 t372.length co27)) (fun _ h_ => h_.1))) (Kd.R_base ho0) hb); have n2_ := Aside0.mk (Kd.R_lower (Kd.R_new' (Kd.R_new' ho0 (Kd.R_lt (by (with_reducible repeat (first | apply Kd.R_alloc | apply Kd.R_drewN | apply Kd.R_drew)); exact (Kd.R_mono (Kd.R_far (p := ⟨gb376, 2, none⟩) (Kd.R_far (p := ⟨gb376, 1, none⟩) (Kd.R_far (p := ⟨gb376, 0, none⟩) (Kd.R_types HO367.out BK376.out (by decide)) (fun _ hk => hk.2) (.int .i64 t370)) (fun _ hk => hk.2) (.int .i64 t371)) (fun _ hk => hk.2) (.slice Ao27 t372.length co27)) (fun _ h_ => h_.1))))) (Kd.R_lt (by (with_reducible repeat (first | apply Kd.R_alloc | apply Kd.R_drewN | apply Kd.R_drew)); exact (Kd.R_mono (Kd.R_far (p := ⟨gb376, 2, none⟩) (Kd.R_far (p := ⟨gb376, 1, none⟩) (Kd.R_far (p := ⟨gb376, 0, none⟩) (Kd.R_types HO374.out BK376.out (by decide)) (fun _ hk => hk.2) (.int .i64 t370)) (fun _ hk => hk.2) (.int .i64 t371)) (fun _ hk => hk.2) (.slice Ao27 t372.length co27)) (fun _ h_ => h_.1))))) (below_size (by repeat (with_reducible first | exact HB.out | apply pw_below_drewN | apply below_drew1 | refine below_set ?_ GE361.out | refine below_set ?_ GE369.out | refine below_set ?_ GE376.out)))); have n3_ := Aside0.mk (blk_below (g := gb361) (o := .cells #[.int .i64 a0_0, .int .i64 a0_1, .slice A0_2 l0_2.length c0_2] 24 (0, 0)) (by refine blk_far ?_ NB361_376.out _; refine blk_far ?_ NB361_376.out _; refine blk_far ?_ NB361_376.out _; exact BK361.out) hb); have n4_ := Aside0.mk (blk_below (g := gb369) (o := .cells #[.int .i64 t363, .int .i64 t364, .slice Ao21 t365.length co21] 24 (0, 0)) (by refine blk_far ?_ NB369_376.out _; refine blk_far ?_ NB369_376.out _; refine blk_far ?_ NB369_376.out _; exact BK369.out) hb); have n5_ := Aside0.mk (blk_below (g := gb376) (o := .cells #[.int .i64 t370, .int .i64 t371, .slice Ao27 t372.length co27] 24 (0, 0)) (by refine blk_put (cs := #[.int .i64 t370, .int .i64 t371, .slice none 0 0]) ?_ 2 _ rfl; refine blk_put (cs := #[.int .i64 t370, .int .i64 0, .slice none 0 0]) ?_ 1 _ rfl; refine blk_put (cs := #[.int .i64 0, .int .i64 0, .slice none 0 0]) ?_ 0 _ rfl; exact BK376.out) hb); have n6_ := Aside0.mk (below_step (by repeat (with_reducible first | exact HB.out | apply pw_below_drewN | apply below_drew1 | refine below_set ?_ GE361.out | refine below_set ?_ GE369.out | refine below_set ?_ GE376.out)) hb); clear HO367; clear HO374; clear BK361; clear BK369; clear BK376; clear HB; have HO367 := n0_; have HO374 := n1_; have HO381 := n2_; have BK361 := n3_; have BK369 := n4_; have BK376 := n5_; have HB := n6_; clear n0_ n1_ n2_ n3_ n4_ n5_ n6_; (try clear hb); (try clear hb2); (try clear hk); (try clear hi); (try clear ho0)) | ((with_reducible refine gate_dst (N := 11) rfl ?_); (try (refine gate_guard (by rfl) ?_; dsimp only)); refine box_event ?hg (N := 11) ?hd (cs := #[.int .i64 0, .int .i64 0, .slice none 0 0]) (t := 24) ?hr ?_; (case hd => rfl); (case hg => rfl); (case hr => first | (go_simp; done) | (go_simp; rfl)); intro gb383 hg w30 hbox hb; have n0_ := Aside0.mk (Kd.R_below (HO367.out) hb); have n1_ := Aside0.mk (Kd.R_below (HO374.out) hb); have n2_ := Aside0.mk (Kd.R_below (HO381.out) hb); have n3_ := Aside0.mk (blk_below BK361.out hb); have n4_ := Aside0.mk (blk_below BK369.out hb); have n5_ := Aside0.mk (blk_below BK376.out hb); have n6_ := Aside0.mk (below_step (by repeat (with_reducible first | exact HB.out | apply pw_below_drewN | apply below_drew1 | refine below_set ?_ GE361.out | refine below_set ?_ GE369.out | refine below_set ?_ GE376.out)) hb); have n7_ := Aside0.mk (hbox); have n8_ := Aside0.mk ((by rw [hg]; exact (below_size (by repeat (with_reducible first | exact HB.out | apply pw_below_drewN | apply below_drew1 | refine below_set ?_ GE361.out | refine below_set ?_ GE369.out | refine below_set ?_ GE376.out))) : w.heap.size ≤ gb383)); have n9_ := Aside0.mk ((by rw [hg]; exact (below_size (by repeat (with_reducible first | exact HB.out | apply pw_below_drewN | apply below_drew1 | refine below_set ?_ GE361.out | refine below_set ?_ GE369.out | refine below_set ?_ GE376.out))) : w.heap.size ≤ gb383)); have n10_ := Aside0.mk ((by rw [hg]; exact Nat.ne_of_lt (blk_lt BK361.out) : gb361 ≠ gb383)); have n11_ := Aside0.mk ((by rw [hg]; exact Nat.ne_of_gt (blk_lt BK361.out) : gb383 ≠ gb361)); have n12_ := Aside0.mk ((by rw [hg]; exact Nat.ne_of_lt (blk_lt BK369.out) : gb369 ≠ gb383)); have n13_ := Aside0.mk ((by rw [hg]; exact Nat.ne_of_gt (blk_lt BK369.out) : gb383 ≠ gb369)); have n14_ := Aside0.mk ((by rw [hg]; exact Nat.ne_of_lt (blk_lt BK376.out) : gb376 ≠ gb383)); have n15_ := Aside0.mk ((by rw [hg]; exact Nat.ne_of_gt (blk_lt BK376.out) : gb383 ≠ gb376)); clear HO367; clear HO374; clear HO381; clear BK361; clear BK369; clear BK376; clear HB; have HO367 := n0_; have HO374 := n1_; have HO381 := n2_; have BK361 := n3_; have BK369 := n4_; have BK376 := n5_; have HB := n6_; have BK383 := n7_; have GW383 := n8_; have GE383 := n9_; have NB361_383 := n10_; have NB383_361 := n11_; have NB369_383 := n12_; have NB383_369 := n13_; have NB376_383 := n14_; have NB383_376 := n15_; clear n0_ n1_ n2_ n3_ n4_ n5_ n6_ n7_ n8_ n9_ n10_ n11_ n12_ n13_ n14_ n15_; clear hb hbox hg; have hnb31 := NB383_361.out; have hnc31 := NB361_383.out; have hnb32 := NB383_369.out; have hnc32 := NB369_383.out; have hnb33 := NB383_376.out; have hnc33 := NB376_383.out; have hcz34_0 : w30.cell? ⟨gb383, 0, none⟩ = some (.int .i64 0) := (blk_cell BK383.out 0).trans rfl; have hcz34_1 : w30.cell? ⟨gb383, 1, none⟩ = some (.int .i64 0) := (blk_cell BK383.out 1).trans rfl; have hcz34_2 : w30.cell? ⟨gb383, 2, none⟩ = some (.slice none 0 0) := (blk_cell BK383.out 2).trans rfl; have hfz34_0 := blk_frozen BK383.out 0; have hfz34_1 := blk_frozen BK383.out 1; have hfz34_2 := blk_frozen BK383.out 2; obtain ⟨Ao35, co35, eo35⟩ := Kd.R_slice HO381.out; subst eo35))
    (try simp only [Act.put, List.setIfInBounds_toArray, List.set_cons_zero, List.set_cons_succ])
    go_cut [41] (fun v41 wc => ∃ (kq : Nat) (x41_11 : Bool), v41 = .bool x41_11 ∧ Aside0 (watchmanlaw08_BoardPass.j0 kq a2 t368 t375 t382 x41_11 a0_0 a0_1 l0_2 t370 t371 t372 t377 t378 t379 = some r) ∧ Aside0 (kq ≤ k) ∧ Aside0 (Kd.R k28 28 wc w.heap.size (fun k_ => some k_ ≠ ((.slice Ao27 t372.length co27) : Value).ownBlock ∧ some k_ ≠ ((.slice Ao35 t379.length co35) : Value).ownBlock) (.slice Ao21 t365.length co21) t365) ∧ Aside0 (Kd.R k28 28 wc w.heap.size (fun k_ => some k_ ≠ ((.slice Ao21 t365.length co21) : Value).ownBlock ∧ some k_ ≠ ((.slice Ao35 t379.length co35) : Value).ownBlock) (.slice Ao27 t372.length co27) t372) ∧ Aside0 (Kd.R k28 28 wc w.heap.size (fun k_ => some k_ ≠ ((.slice Ao21 t365.length co21) : Value).ownBlock ∧ some k_ ≠ ((.slice Ao27 t372.length co27) : Value).ownBlock) (.slice Ao35 t379.length co35) t379) ∧ Aside0 (wc.heap[gb361]? = some (.cells #[.int .i64 a0_0, .int .i64 a0_1, (.slice A0_2 l0_2.length c0_2)] 24 (0, 0))) ∧ Aside0 (wc.heap[gb369]? = some (.cells #[.int .i64 t363, .int .i64 t364, (.slice Ao21 t365.length co21)] 24 (0, 0))) ∧ Aside0 (wc.heap[gb376]? = some (.cells #[.int .i64 t370, .int .i64 t371, (.slice Ao27 t372.length co27)] 24 (0, 0))) ∧ Aside0 (wc.heap[gb383]? = some (.cells #[.int .i64 t377, .int .i64 t378, (.slice Ao35 t379.length co35)] 24 (0, 0))) ∧ Aside0 (Below w.heap.size w wc))
    case first =>
      have H := HC12.out
      clear HC12
      by_cases c36 : t368 = 0
      · rw [if_pos c36] at H
        have c36b0 : (t368 == 0) = true := beq_iff_eq.mpr c36
        have c36b1 : (t368 != 0) = false := bne_eq_false_iff_eq.mpr c36
        clear c36
        (first | rw [c36b0] | (simp only [i64_w, i32_w]; rw [c36b0]) | skip)
        have H' := Aside0.mk H
        clear H
        go_wp2
        go_meet
        case rel => exact ⟨_, ((t375 != 0)), (by first | rfl | (simp; done) | (simp [*]; done)), H', ⟨by first | omega | exact Nat.le_refl _⟩, ⟨by (with_reducible repeat (first | apply Kd.R_alloc | apply Kd.R_drewN | apply Kd.R_drew)); exact Kd.R_mono (Kd.R_far (p := ⟨gb383, 2, none⟩) (Kd.R_far (p := ⟨gb383, 1, none⟩) (Kd.R_far (p := ⟨gb383, 0, none⟩) (Kd.R_types HO367.out BK383.out (by decide)) (fun _ hk => hk.2) (.int .i64 t377)) (fun _ hk => hk.2) (.int .i64 t378)) (fun _ hk => hk.2) (.slice Ao35 t379.length co35)) (fun _ hk => ⟨hk.1.1.2, hk.1.2⟩)⟩, ⟨by (with_reducible repeat (first | apply Kd.R_alloc | apply Kd.R_drewN | apply Kd.R_drew)); exact Kd.R_mono (Kd.R_far (p := ⟨gb383, 2, none⟩) (Kd.R_far (p := ⟨gb383, 1, none⟩) (Kd.R_far (p := ⟨gb383, 0, none⟩) (Kd.R_types HO374.out BK383.out (by decide)) (fun _ hk => hk.2) (.int .i64 t377)) (fun _ hk => hk.2) (.int .i64 t378)) (fun _ hk => hk.2) (.slice Ao35 t379.length co35)) (fun _ hk => ⟨hk.1.1.2, hk.1.2⟩)⟩, ⟨by (with_reducible repeat (first | apply Kd.R_alloc | apply Kd.R_drewN | apply Kd.R_drew)); exact Kd.R_mono (Kd.R_far (p := ⟨gb383, 2, none⟩) (Kd.R_far (p := ⟨gb383, 1, none⟩) (Kd.R_far (p := ⟨gb383, 0, none⟩) (Kd.R_types HO381.out BK383.out (by decide)) (fun _ hk => hk.2) (.int .i64 t377)) (fun _ hk => hk.2) (.int .i64 t378)) (fun _ hk => hk.2) (.slice Ao35 t379.length co35)) (fun _ hk => ⟨hk.1.1.2, hk.1.2⟩)⟩, ⟨by (with_reducible repeat (first | refine blk_drewN ?_ _ | refine blk_drew ?_ | refine blk_alloc ?_ _)); refine blk_far ?_ NB361_383.out _; (with_reducible repeat (first | refine blk_drewN ?_ _ | refine blk_drew ?_ | refine blk_alloc ?_ _)); refine blk_far ?_ NB361_383.out _; (with_reducible repeat (first | refine blk_drewN ?_ _ | refine blk_drew ?_ | refine blk_alloc ?_ _)); refine blk_far ?_ NB361_383.out _; (with_reducible repeat (first | refine blk_drewN ?_ _ | refine blk_drew ?_ | refine blk_alloc ?_ _)); exact BK361.out⟩, ⟨by (with_reducible repeat (first | refine blk_drewN ?_ _ | refine blk_drew ?_ | refine blk_alloc ?_ _)); refine blk_far ?_ NB369_383.out _; (with_reducible repeat (first | refine blk_drewN ?_ _ | refine blk_drew ?_ | refine blk_alloc ?_ _)); refine blk_far ?_ NB369_383.out _; (with_reducible repeat (first | refine blk_drewN ?_ _ | refine blk_drew ?_ | refine blk_alloc ?_ _)); refine blk_far ?_ NB369_383.out _; (with_reducible repeat (first | refine blk_drewN ?_ _ | refine blk_drew ?_ | refine blk_alloc ?_ _)); exact BK369.out⟩, ⟨by (with_reducible repeat (first | refine blk_drewN ?_ _ | refine blk_drew ?_ | refine blk_alloc ?_ _)); refine blk_far ?_ NB376_383.out _; (with_reducible repeat (first | refine blk_drewN ?_ _ | refine blk_drew ?_ | refine blk_alloc ?_ _)); refine blk_far ?_ NB376_383.out _; (with_reducible repeat (first | refine blk_drewN ?_ _ | refine blk_drew ?_ | refine blk_alloc ?_ _)); refine blk_far ?_ NB376_383.out _; (with_reducible repeat (first | refine blk_drewN ?_ _ | refine blk_drew ?_ | refine blk_alloc ?_ _)); exact BK376.out⟩, ⟨by (with_reducible repeat (first | refine blk_drewN ?_ _ | refine blk_drew ?_ | refine blk_alloc ?_ _)); refine blk_put (cs := #[.int .i64 t377, .int .i64 t378, .slice none 0 0]) ?_ 2 _ rfl; (with_reducible repeat (first | refine blk_drewN ?_ _ | refine blk_drew ?_ | refine blk_alloc ?_ _)); refine blk_put (cs := #[.int .i64 t377, .int .i64 0, .slice none 0 0]) ?_ 1 _ rfl; (with_reducible repeat (first | refine blk_drewN ?_ _ | refine blk_drew ?_ | refine blk_alloc ?_ _)); refine blk_put (cs := #[.int .i64 0, .int .i64 0, .slice none 0 0]) ?_ 0 _ rfl; (with_reducible repeat (first | refine blk_drewN ?_ _ | refine blk_drew ?_ | refine blk_alloc ?_ _)); exact BK383.out⟩, ⟨by repeat (with_reducible first | exact HB.out | apply pw_below_drewN | apply below_drew1 | refine below_set ?_ GE361.out | refine below_set ?_ GE369.out | refine below_set ?_ GE376.out | refine below_set ?_ GE383.out)⟩⟩
      · rw [if_neg c36] at H
        have c36b0 : (t368 == 0) = false := beq_eq_false_iff_ne.mpr c36
        have c36b1 : (t368 != 0) = true := bne_iff_ne.mpr c36
        (first | rw [c36b0] | (simp only [i64_w, i32_w]; rw [c36b0]) | skip)
        have H' := Aside0.mk H
        clear H
        go_wp2
        go_meet
        case rel => exact ⟨_, (true), (by first | rfl | (simp; done) | (simp [*]; done)), H', ⟨by first | omega | exact Nat.le_refl _⟩, ⟨by (with_reducible repeat (first | apply Kd.R_alloc | apply Kd.R_drewN | apply Kd.R_drew)); exact Kd.R_mono (Kd.R_far (p := ⟨gb383, 2, none⟩) (Kd.R_far (p := ⟨gb383, 1, none⟩) (Kd.R_far (p := ⟨gb383, 0, none⟩) (Kd.R_types HO367.out BK383.out (by decide)) (fun _ hk => hk.2) (.int .i64 t377)) (fun _ hk => hk.2) (.int .i64 t378)) (fun _ hk => hk.2) (.slice Ao35 t379.length co35)) (fun _ hk => ⟨hk.1.1.2, hk.1.2⟩)⟩, ⟨by (with_reducible repeat (first | apply Kd.R_alloc | apply Kd.R_drewN | apply Kd.R_drew)); exact Kd.R_mono (Kd.R_far (p := ⟨gb383, 2, none⟩) (Kd.R_far (p := ⟨gb383, 1, none⟩) (Kd.R_far (p := ⟨gb383, 0, none⟩) (Kd.R_types HO374.out BK383.out (by decide)) (fun _ hk => hk.2) (.int .i64 t377)) (fun _ hk => hk.2) (.int .i64 t378)) (fun _ hk => hk.2) (.slice Ao35 t379.length co35)) (fun _ hk => ⟨hk.1.1.2, hk.1.2⟩)⟩, ⟨by (with_reducible repeat (first | apply Kd.R_alloc | apply Kd.R_drewN | apply Kd.R_drew)); exact Kd.R_mono (Kd.R_far (p := ⟨gb383, 2, none⟩) (Kd.R_far (p := ⟨gb383, 1, none⟩) (Kd.R_far (p := ⟨gb383, 0, none⟩) (Kd.R_types HO381.out BK383.out (by decide)) (fun _ hk => hk.2) (.int .i64 t377)) (fun _ hk => hk.2) (.int .i64 t378)) (fun _ hk => hk.2) (.slice Ao35 t379.length co35)) (fun _ hk => ⟨hk.1.1.2, hk.1.2⟩)⟩, ⟨by (with_reducible repeat (first | refine blk_drewN ?_ _ | refine blk_drew ?_ | refine blk_alloc ?_ _)); refine blk_far ?_ NB361_383.out _; (with_reducible repeat (first | refine blk_drewN ?_ _ | refine blk_drew ?_ | refine blk_alloc ?_ _)); refine blk_far ?_ NB361_383.out _; (with_reducible repeat (first | refine blk_drewN ?_ _ | refine blk_drew ?_ | refine blk_alloc ?_ _)); refine blk_far ?_ NB361_383.out _; (with_reducible repeat (first | refine blk_drewN ?_ _ | refine blk_drew ?_ | refine blk_alloc ?_ _)); exact BK361.out⟩, ⟨by (with_reducible repeat (first | refine blk_drewN ?_ _ | refine blk_drew ?_ | refine blk_alloc ?_ _)); refine blk_far ?_ NB369_383.out _; (with_reducible repeat (first | refine blk_drewN ?_ _ | refine blk_drew ?_ | refine blk_alloc ?_ _)); refine blk_far ?_ NB369_383.out _; (with_reducible repeat (first | refine blk_drewN ?_ _ | refine blk_drew ?_ | refine blk_alloc ?_ _)); refine blk_far ?_ NB369_383.out _; (with_reducible repeat (first | refine blk_drewN ?_ _ | refine blk_drew ?_ | refine blk_alloc ?_ _)); exact BK369.out⟩, ⟨by (with_reducible repeat (first | refine blk_drewN ?_ _ | refine blk_drew ?_ | refine blk_alloc ?_ _)); refine blk_far ?_ NB376_383.out _; (with_reducible repeat (first | refine blk_drewN ?_ _ | refine blk_drew ?_ | refine blk_alloc ?_ _)); refine blk_far ?_ NB376_383.out _; (with_reducible repeat (first | refine blk_drewN ?_ _ | refine blk_drew ?_ | refine blk_alloc ?_ _)); refine blk_far ?_ NB376_383.out _; (with_reducible repeat (first | refine blk_drewN ?_ _ | refine blk_drew ?_ | refine blk_alloc ?_ _)); exact BK376.out⟩, ⟨by (with_reducible repeat (first | refine blk_drewN ?_ _ | refine blk_drew ?_ | refine blk_alloc ?_ _)); refine blk_put (cs := #[.int .i64 t377, .int .i64 t378, .slice none 0 0]) ?_ 2 _ rfl; (with_reducible repeat (first | refine blk_drewN ?_ _ | refine blk_drew ?_ | refine blk_alloc ?_ _)); refine blk_put (cs := #[.int .i64 t377, .int .i64 0, .slice none 0 0]) ?_ 1 _ rfl; (with_reducible repeat (first | refine blk_drewN ?_ _ | refine blk_drew ?_ | refine blk_alloc ?_ _)); refine blk_put (cs := #[.int .i64 0, .int .i64 0, .slice none 0 0]) ?_ 0 _ rfl; (with_reducible repeat (first | refine blk_drewN ?_ _ | refine blk_drew ?_ | refine blk_alloc ?_ _)); exact BK383.out⟩, ⟨by repeat (with_reducible first | exact HB.out | apply pw_below_drewN | apply below_drew1 | refine below_set ?_ GE361.out | refine below_set ?_ GE369.out | refine below_set ?_ GE376.out | refine below_set ?_ GE383.out)⟩⟩
    case rest =>
      clear HC12
      try clear c1
      try clear c2
      try clear p2
      try clear c3
      try clear c5
      try clear c13
      try clear c19
      try clear c24
      try clear c25
      try clear c31
      try clear c32
      try clear c33
      try clear c36
      try clear c36b0
      try clear c36b1
      try clear hcz14_0
      try clear hcz14_1
      try clear hcz14_2
      try clear hcz16_0
      try clear hcz16_1
      try clear hcz16_2
      try clear hcz20_0
      try clear hcz20_1
      try clear hcz20_2
      try clear hcz26_0
      try clear hcz26_1
      try clear hcz26_2
      try clear hcz28_0
      try clear hcz28_1
      try clear hcz28_2
      try clear hcz34_0
      try clear hcz34_1
      try clear hcz34_2
      try clear hcz7_0
      try clear hcz7_1
      try clear hcz7_2
      try clear hfz14_0
      try clear hfz14_1
      try clear hfz14_2
      try clear hfz16_0
      try clear hfz16_1
      try clear hfz16_2
      try clear hfz20_0
      try clear hfz20_1
      try clear hfz20_2
      try clear hfz26_0
      try clear hfz26_1
      try clear hfz26_2
      try clear hfz28_0
      try clear hfz28_1
      try clear hfz28_2
      try clear hfz34_0
      try clear hfz34_1
      try clear hfz34_2
      try clear hfz7_0
      try clear hfz7_1
      try clear hfz7_2
      obtain ⟨kq, x41_11, rfl, HA, HJ11, HO_370002, HO_377002, HO_384002, BK361, BK369, BK376, BK383, HB⟩ := hcut
      cases kq with
      | zero => exact absurd HA.out (by simp [watchmanlaw08_BoardPass.j0])
      | succ kj11 =>
        have H := HA.out
        clear HA
        simp only [watchmanlaw08_BoardPass.j0] at H
        by_cases c37 : x41_11 = true
        · subst c37
          have H1 : ((watchmanlaw08_boards.f kj11).bind fun t384 => (if t384 = true then (if t368 = 0 then (if t375 = 1 then (some true) else (some (t375 == 62))) else (some true)) else (none))) = some r := by rw [if_pos rfl] at H; exact H
          clear H
          have H := H1
          clear H1
          replace H := Option.bind_eq_some_iff.mp H
          obtain ⟨t384, A380, H⟩ := H
          replace H : (if t384 = true then (if t368 = 0 then (if t375 = 1 then (some true) else (some (t375 == 62))) else (some true)) else (none)) = some r := H
          have A38 := Aside0.mk A380
          clear A380
          by_cases c39 : t384 = true
          · subst c39
            have H1 : (if t368 = 0 then (if t375 = 1 then (some true) else (some (t375 == 62))) else (some true)) = some r := by rw [if_pos rfl] at H; exact H
            clear H
            have H := H1
            clear H1
            by_cases c40 : t368 = 0
            · rw [if_pos c40] at H
              have c40b0 : (t368 == 0) = true := beq_iff_eq.mpr c40
              have c40b1 : (t368 != 0) = false := bne_eq_false_iff_eq.mpr c40
              clear c40
              by_cases c41 : t375 = 1
              · rw [if_pos c41] at H
                have c41b0 : (t375 == 1) = true := beq_iff_eq.mpr c41
                have c41b1 : (t375 != 1) = false := bne_eq_false_iff_eq.mpr c41
                clear c41
                obtain rfl := Option.some.inj H
                go_wp2_with (first | ((with_reducible refine gate_callee (f := 31) rfl ?_); refine goesL_ (some 42) rfl rfl Try.func31 (by kernel_rfl) rfl #[] rfl (by (try simp only [List.map_toArray, List.map_cons, List.map_nil]); first | done | rfl | (simp only [List.length_drop, List.length_take]; rfl)) ?_; (with_reducible refine (watchmanlaw08_boards.calls kj11  true _ A38.out).mono ?_); rintro e w42 ⟨rfl, hb⟩; refine ⟨_, rfl, ?_⟩; have n0_ := Aside0.mk (Kd.R_below (HO_370002.out) hb); have n1_ := Aside0.mk (Kd.R_below (HO_377002.out) hb); have n2_ := Aside0.mk (Kd.R_below (HO_384002.out) hb); have n3_ := Aside0.mk (blk_below BK361.out hb); have n4_ := Aside0.mk (blk_below BK369.out hb); have n5_ := Aside0.mk (blk_below BK376.out hb); have n6_ := Aside0.mk (blk_below BK383.out hb); have n7_ := Aside0.mk (below_step (by repeat (with_reducible first | exact HB.out | apply pw_below_drewN | apply below_drew1 | refine below_set ?_ GE361.out | refine below_set ?_ GE369.out | refine below_set ?_ GE376.out | refine below_set ?_ GE383.out)) hb); clear HO_370002; clear HO_377002; clear HO_384002; clear BK361; clear BK369; clear BK376; clear BK383; clear HB; have HO_370002 := n0_; have HO_377002 := n1_; have HO_384002 := n2_; have BK361 := n3_; have BK369 := n4_; have BK376 := n5_; have BK383 := n6_; have HB := n7_; clear n0_ n1_ n2_ n3_ n4_ n5_ n6_ n7_; (try clear hb); (try clear hb2); (try clear hk); (try clear hi)))
                go_ret
                exact ⟨by first | rfl | (simp [errW_none, errW_some] <;> rfl) | (simp [*, errW_none, errW_some] <;> rfl), by repeat (with_reducible first | exact HB.out | apply pw_below_drewN | apply below_drew1 | refine below_set ?_ GE361.out | refine below_set ?_ GE369.out | refine below_set ?_ GE376.out | refine below_set ?_ GE383.out)⟩
              · rw [if_neg c41] at H
                have c41b0 : (t375 == 1) = false := beq_eq_false_iff_ne.mpr c41
                have c41b1 : (t375 != 1) = true := bne_iff_ne.mpr c41
                obtain rfl := Option.some.inj H
                go_wp2_with (first | ((with_reducible refine gate_callee (f := 31) rfl ?_); refine goesL_ (some 42) rfl rfl Try.func31 (by kernel_rfl) rfl #[] rfl (by (try simp only [List.map_toArray, List.map_cons, List.map_nil]); first | done | rfl | (simp only [List.length_drop, List.length_take]; rfl)) ?_; (with_reducible refine (watchmanlaw08_boards.calls kj11  true _ A38.out).mono ?_); rintro e w43 ⟨rfl, hb⟩; refine ⟨_, rfl, ?_⟩; have n0_ := Aside0.mk (Kd.R_below (HO_370002.out) hb); have n1_ := Aside0.mk (Kd.R_below (HO_377002.out) hb); have n2_ := Aside0.mk (Kd.R_below (HO_384002.out) hb); have n3_ := Aside0.mk (blk_below BK361.out hb); have n4_ := Aside0.mk (blk_below BK369.out hb); have n5_ := Aside0.mk (blk_below BK376.out hb); have n6_ := Aside0.mk (blk_below BK383.out hb); have n7_ := Aside0.mk (below_step (by repeat (with_reducible first | exact HB.out | apply pw_below_drewN | apply below_drew1 | refine below_set ?_ GE361.out | refine below_set ?_ GE369.out | refine below_set ?_ GE376.out | refine below_set ?_ GE383.out)) hb); clear HO_370002; clear HO_377002; clear HO_384002; clear BK361; clear BK369; clear BK376; clear BK383; clear HB; have HO_370002 := n0_; have HO_377002 := n1_; have HO_384002 := n2_; have BK361 := n3_; have BK369 := n4_; have BK376 := n5_; have BK383 := n6_; have HB := n7_; clear n0_ n1_ n2_ n3_ n4_ n5_ n6_ n7_; (try clear hb); (try clear hb2); (try clear hk); (try clear hi)))
                go_ret
                exact ⟨by first | rfl | (simp [errW_none, errW_some] <;> rfl) | (simp [*, errW_none, errW_some] <;> rfl), by repeat (with_reducible first | exact HB.out | apply pw_below_drewN | apply below_drew1 | refine below_set ?_ GE361.out | refine below_set ?_ GE369.out | refine below_set ?_ GE376.out | refine below_set ?_ GE383.out)⟩
            · rw [if_neg c40] at H
              have c40b0 : (t368 == 0) = false := beq_eq_false_iff_ne.mpr c40
              have c40b1 : (t368 != 0) = true := bne_iff_ne.mpr c40
              obtain rfl := Option.some.inj H
              go_wp2_with (first | ((with_reducible refine gate_callee (f := 31) rfl ?_); refine goesL_ (some 42) rfl rfl Try.func31 (by kernel_rfl) rfl #[] rfl (by (try simp only [List.map_toArray, List.map_cons, List.map_nil]); first | done | rfl | (simp only [List.length_drop, List.length_take]; rfl)) ?_; (with_reducible refine (watchmanlaw08_boards.calls kj11  true _ A38.out).mono ?_); rintro e w44 ⟨rfl, hb⟩; refine ⟨_, rfl, ?_⟩; have n0_ := Aside0.mk (Kd.R_below (HO_370002.out) hb); have n1_ := Aside0.mk (Kd.R_below (HO_377002.out) hb); have n2_ := Aside0.mk (Kd.R_below (HO_384002.out) hb); have n3_ := Aside0.mk (blk_below BK361.out hb); have n4_ := Aside0.mk (blk_below BK369.out hb); have n5_ := Aside0.mk (blk_below BK376.out hb); have n6_ := Aside0.mk (blk_below BK383.out hb); have n7_ := Aside0.mk (below_step (by repeat (with_reducible first | exact HB.out | apply pw_below_drewN | apply below_drew1 | refine below_set ?_ GE361.out | refine below_set ?_ GE369.out | refine below_set ?_ GE376.out | refine below_set ?_ GE383.out)) hb); clear HO_370002; clear HO_377002; clear HO_384002; clear BK361; clear BK369; clear BK376; clear BK383; clear HB; have HO_370002 := n0_; have HO_377002 := n1_; have HO_384002 := n2_; have BK361 := n3_; have BK369 := n4_; have BK376 := n5_; have BK383 := n6_; have HB := n7_; clear n0_ n1_ n2_ n3_ n4_ n5_ n6_ n7_; (try clear hb); (try clear hb2); (try clear hk); (try clear hi)))
              go_ret
              exact ⟨by first | rfl | (simp [errW_none, errW_some] <;> rfl) | (simp [*, errW_none, errW_some] <;> rfl), by repeat (with_reducible first | exact HB.out | apply pw_below_drewN | apply below_drew1 | refine below_set ?_ GE361.out | refine below_set ?_ GE369.out | refine below_set ?_ GE376.out | refine below_set ?_ GE383.out)⟩
          · replace c39 := Bool.eq_false_iff.mpr c39
            subst c39
            have H1 : (none) = some r := by rw [if_neg (show ¬ (false = true) by decide)] at H; exact H
            clear H
            have H := H1
            clear H1
            exact absurd H (by simp)
        · replace c37 := Bool.eq_false_iff.mpr c37
          subst c37
          have H1 : (watchmanlaw08_BoardPass.l0 kj11 a2 t382 0 a0_0 a0_1 l0_2 t370 t371 t372 t377 t378 t379) = some r := by rw [if_neg (show ¬ (false = true) by decide)] at H; exact H
          clear H
          have H := H1
          clear H1
          have H' := Aside0.mk H
          clear H
          go_wp2
          go_loopg [13] kj11 (fun kq v13 w' => ∃ (x13_2 : Int), v13 = .int .i64 x13_2 ∧ Aside0 (watchmanlaw08_BoardPass.l0 kq a2 t382 x13_2 a0_0 a0_1 l0_2 t370 t371 t372 t377 t378 t379 = some r) ∧ Aside0 (kq ≤ kj11) ∧ Aside0 (Kd.R k28 28 w' w.heap.size (fun k_ => some k_ ≠ ((.slice Ao27 t372.length co27) : Value).ownBlock ∧ some k_ ≠ ((.slice Ao35 t379.length co35) : Value).ownBlock) (.slice Ao21 t365.length co21) t365) ∧ Aside0 (Kd.R k28 28 w' w.heap.size (fun k_ => some k_ ≠ ((.slice Ao21 t365.length co21) : Value).ownBlock ∧ some k_ ≠ ((.slice Ao35 t379.length co35) : Value).ownBlock) (.slice Ao27 t372.length co27) t372) ∧ Aside0 (Kd.R k28 28 w' w.heap.size (fun k_ => some k_ ≠ ((.slice Ao21 t365.length co21) : Value).ownBlock ∧ some k_ ≠ ((.slice Ao27 t372.length co27) : Value).ownBlock) (.slice Ao35 t379.length co35) t379) ∧ Aside0 (w'.heap[gb361]? = some (.cells #[.int .i64 a0_0, .int .i64 a0_1, (.slice A0_2 l0_2.length c0_2)] 24 (0, 0))) ∧ Aside0 (w'.heap[gb369]? = some (.cells #[.int .i64 t363, .int .i64 t364, (.slice Ao21 t365.length co21)] 24 (0, 0))) ∧ Aside0 (w'.heap[gb376]? = some (.cells #[.int .i64 t370, .int .i64 t371, (.slice Ao27 t372.length co27)] 24 (0, 0))) ∧ Aside0 (w'.heap[gb383]? = some (.cells #[.int .i64 t377, .int .i64 t378, (.slice Ao35 t379.length co35)] 24 (0, 0))) ∧ Aside0 (Below w.heap.size w w'))
          case atStart => exact ⟨(0), (by first | rfl | (simp; done) | (simp [*]; done)), H', ⟨Nat.le_refl _⟩, ⟨by (with_reducible repeat (first | apply Kd.R_alloc | apply Kd.R_drewN | apply Kd.R_drew)); exact HO_370002.out⟩, ⟨by (with_reducible repeat (first | apply Kd.R_alloc | apply Kd.R_drewN | apply Kd.R_drew)); exact HO_377002.out⟩, ⟨by (with_reducible repeat (first | apply Kd.R_alloc | apply Kd.R_drewN | apply Kd.R_drew)); exact HO_384002.out⟩, ⟨by (with_reducible repeat (first | refine blk_drewN ?_ _ | refine blk_drew ?_ | refine blk_alloc ?_ _)); exact BK361.out⟩, ⟨by (with_reducible repeat (first | refine blk_drewN ?_ _ | refine blk_drew ?_ | refine blk_alloc ?_ _)); exact BK369.out⟩, ⟨by (with_reducible repeat (first | refine blk_drewN ?_ _ | refine blk_drew ?_ | refine blk_alloc ?_ _)); exact BK376.out⟩, ⟨by (with_reducible repeat (first | refine blk_drewN ?_ _ | refine blk_drew ?_ | refine blk_alloc ?_ _)); exact BK383.out⟩, ⟨by repeat (with_reducible first | exact HB.out | apply pw_below_drewN | apply below_drew1 | refine below_set ?_ GE361.out | refine below_set ?_ GE369.out | refine below_set ?_ GE376.out | refine below_set ?_ GE383.out)⟩⟩
          case round =>
            clear H'
            try clear c1
            try clear c2
            try clear p2
            try clear c3
            try clear c4
            try clear c5
            try clear c13
            try clear c19
            try clear c24
            try clear c25
            try clear c31
            try clear c32
            try clear c33
            try clear c36
            try clear c36b0
            try clear c36b1
            try clear c37
            try clear c39
            try clear c40
            try clear c40b0
            try clear c40b1
            try clear c41
            try clear c41b0
            try clear c41b1
            try clear hcz14_0
            try clear hcz14_1
            try clear hcz14_2
            try clear hcz16_0
            try clear hcz16_1
            try clear hcz16_2
            try clear hcz20_0
            try clear hcz20_1
            try clear hcz20_2
            try clear hcz26_0
            try clear hcz26_1
            try clear hcz26_2
            try clear hcz28_0
            try clear hcz28_1
            try clear hcz28_2
            try clear hcz34_0
            try clear hcz34_1
            try clear hcz34_2
            try clear hcz7_0
            try clear hcz7_1
            try clear hcz7_2
            try clear hfz14_0
            try clear hfz14_1
            try clear hfz14_2
            try clear hfz16_0
            try clear hfz16_1
            try clear hfz16_2
            try clear hfz20_0
            try clear hfz20_1
            try clear hfz20_2
            try clear hfz26_0
            try clear hfz26_1
            try clear hfz26_2
            try clear hfz28_0
            try clear hfz28_1
            try clear hfz28_2
            try clear hfz34_0
            try clear hfz34_1
            try clear hfz34_2
            try clear hfz7_0
            try clear hfz7_1
            try clear hfz7_2
            try clear p2
            obtain ⟨x13_2, rfl, HA, HK2, HO_370002, HO_377002, HO_384002, BK361, BK369, BK376, BK383, HB⟩ := hrel
            cases gk with
            | zero => exact absurd HA.out (by simp [watchmanlaw08_BoardPass.l0])
            | succ k2 =>
              have H := HA.out
              clear HA
              simp only [watchmanlaw08_BoardPass.l0] at H
              by_cases c45 : x13_2 < (l0_2.length : Int)
              · rw [if_pos c45] at H
                have c45b0 : decide (x13_2 < (l0_2.length : Int)) = true := decide_eq_true c45
                clear c45
                by_cases c46 : 0 ≤ x13_2
                · rw [if_pos c46] at H
                  have c46b0 : decide (0 ≤ x13_2) = true := decide_eq_true c46
                  clear c46
                  replace H := Option.bind_eq_some_iff.mp H
                  obtain ⟨⟨t386, t387, t388, t389, t390, t391, t392⟩, A470, H⟩ := H
                  replace H : (if t392 = true then ((alarm_Pass.f k2 ((rd_T28 l0_2 x13_2).f0.f0) ((rd_T28 l0_2 x13_2).f0.f1) ((rd_T28 l0_2 x13_2).f1) ((rd_T28 l0_2 x13_2).f2) ((rd_T28 l0_2 x13_2).f3) ((rd_T28 l0_2 x13_2).f4) a2).bind fun bt395 => (if ((!(t386 == bt395.1) || (!(t387 == bt395.2.1))) || (!(t388 == bt395.2.2.1) || (!(t389 == bt395.2.2.2.1) || (!(t390 == bt395.2.2.2.2.1) || (!(t391 == bt395.2.2.2.2.2)))))) = true then (none) else (watchmanlaw08_BoardPass.l0 k2 a2 t382 (wrap64 (x13_2 + 1)) a0_0 a0_1 l0_2 t370 t371 t372 t377 t378 t379))) else (none)) = some r := H
                  have A47 := Aside0.mk A470
                  clear A470
                  by_cases c48 : t392 = true
                  · subst c48
                    have H1 : ((alarm_Pass.f k2 ((rd_T28 l0_2 x13_2).f0.f0) ((rd_T28 l0_2 x13_2).f0.f1) ((rd_T28 l0_2 x13_2).f1) ((rd_T28 l0_2 x13_2).f2) ((rd_T28 l0_2 x13_2).f3) ((rd_T28 l0_2 x13_2).f4) a2).bind fun bt395 => (if ((!(t386 == bt395.1) || (!(t387 == bt395.2.1))) || (!(t388 == bt395.2.2.1) || (!(t389 == bt395.2.2.2.1) || (!(t390 == bt395.2.2.2.2.1) || (!(t391 == bt395.2.2.2.2.2)))))) = true then (none) else (watchmanlaw08_BoardPass.l0 k2 a2 t382 (wrap64 (x13_2 + 1)) a0_0 a0_1 l0_2 t370 t371 t372 t377 t378 t379))) = some r := by rw [if_pos rfl] at H; exact H
                    clear H
                    have H := H1
                    clear H1
                    replace H := Option.bind_eq_some_iff.mp H
                    obtain ⟨⟨t395, t396, t397, t398, t399, t400⟩, A490, H⟩ := H
                    replace H : (if ((!(t386 == t395) || (!(t387 == t396))) || (!(t388 == t397) || (!(t389 == t398) || (!(t390 == t399) || (!(t391 == t400)))))) = true then (none) else (watchmanlaw08_BoardPass.l0 k2 a2 t382 (wrap64 (x13_2 + 1)) a0_0 a0_1 l0_2 t370 t371 t372 t377 t378 t379)) = some r := H
                    have A49 := Aside0.mk A490
                    clear A490
                    by_cases c50 : ((!(t386 == t395) || (!(t387 == t396))) || (!(t388 == t397) || (!(t389 == t398) || (!(t390 == t399) || (!(t391 == t400)))))) = true
                    · rw [if_pos c50] at H
                      exact absurd H (by simp)
                    · rw [if_neg c50] at H
                      have c50b0 : ((!(t386 == t395) || (!(t387 == t396))) || (!(t388 == t397) || (!(t389 == t398) || (!(t390 == t399) || (!(t391 == t400)))))) = false := by simpa using c50
                      clear c50
                      have H' := Aside0.mk H
                      clear H
                      have hnb51 := NB361_369.out
                      have hnc51 := NB369_361.out
                      have hnb52 := NB361_376.out
                      have hnc52 := NB376_361.out
                      have hnb53 := NB361_383.out
                      have hnc53 := NB383_361.out
                      have hcz54_0 : wr.cell? ⟨gb361, 0, none⟩ = some (.int .i64 a0_0) := (blk_cell BK361.out 0).trans rfl
                      have hcz54_1 : wr.cell? ⟨gb361, 1, none⟩ = some (.int .i64 a0_1) := (blk_cell BK361.out 1).trans rfl
                      have hcz54_2 : wr.cell? ⟨gb361, 2, none⟩ = some (.slice A0_2 l0_2.length c0_2) := (blk_cell BK361.out 2).trans rfl
                      have hfz54_0 := blk_frozen BK361.out 0
                      have hfz54_1 := blk_frozen BK361.out 1
                      have hfz54_2 := blk_frozen BK361.out 2
                      try go_wp2
                      have n0_ := Aside0.mk (Kd.R_drew HO_370002.out)
                      have n1_ := Aside0.mk (Kd.R_drew HO_377002.out)
                      have n2_ := Aside0.mk (Kd.R_drew HO_384002.out)
                      have n3_ := Aside0.mk (blk_drew BK361.out)
                      have n4_ := Aside0.mk (blk_drew BK369.out)
                      have n5_ := Aside0.mk (blk_drew BK376.out)
                      have n6_ := Aside0.mk (blk_drew BK383.out)
                      have n7_ := Aside0.mk (below_drew1 HB.out)
                      clear HO_370002
                      clear HO_377002
                      clear HO_384002
                      clear BK361
                      clear BK369
                      clear BK376
                      clear BK383
                      clear HB
                      have HO_370002 := n0_
                      have HO_377002 := n1_
                      have HO_384002 := n2_
                      have BK361 := n3_
                      have BK369 := n4_
                      have BK376 := n5_
                      have BK383 := n6_
                      have HB := n7_
                      clear n0_ n1_ n2_ n3_ n4_ n5_ n6_ n7_
                      have p385 : 0 ≤ (x13_2 : Int) := of_decide_eq_true (by first | (with_reducible assumption) | assumption)
                      have q385 : x13_2 < (l0_2.length : Int) := of_decide_eq_true (by first | (with_reducible assumption) | assumption)
                      obtain ⟨ad385, e385, hx385_0, hx385_1, hx385_2, hx385_3, hx385_4, hx385_5⟩ := at_T28 HR0_2.out x13_2 p385 q385
                      have hw385_5 := hx385_5
                      have hw385_4 := hx385_4
                      have hw385_3 := hx385_3
                      have hw385_2 := hx385_2
                      have hw385_1 := hx385_1
                      have hw385_0 := hx385_0
                      cases e385
                      replace hx385_0 := (HB.out.cell (World.block_lt_of_cell? w _ hx385_0)).trans hx385_0
                      replace hx385_1 := (HB.out.cell (World.block_lt_of_cell? w _ hx385_1)).trans hx385_1
                      replace hx385_2 := (HB.out.cell (World.block_lt_of_cell? w _ hx385_2)).trans hx385_2
                      replace hx385_3 := (HB.out.cell (World.block_lt_of_cell? w _ hx385_3)).trans hx385_3
                      replace hx385_4 := (HB.out.cell (World.block_lt_of_cell? w _ hx385_4)).trans hx385_4
                      replace hx385_5 := (HB.out.cell (World.block_lt_of_cell? w _ hx385_5)).trans hx385_5
                      replace p385 := eq_true p385
                      replace q385 := eq_true q385
                      refine start_ (n := 14) (S := fun w' => w'.cell? ⟨gb376, 0, none⟩ = some (.int .i64 t370) ∧ w'.cell? ⟨gb376, 1, none⟩ = some (.int .i64 t371) ∧ w'.cell? ⟨gb376, 2, none⟩ = some (.slice Ao27 t372.length co27) ∧ w'.cell? ⟨gb361, 0, none⟩ = some (.int .i64 a0_0) ∧ w'.cell? ⟨gb361, 1, none⟩ = some (.int .i64 a0_1) ∧ w'.cell? ⟨gb361, 2, none⟩ = some (.slice (some ad385) l0_2.length c0_2) ∧ w'.cell? (ad385.add ((x13_2).toNat * 6)) = some (.int .i64 ((rd_T28 l0_2 x13_2).f0.f0)) ∧ w'.cell? ⟨(ad385.add ((x13_2).toNat * 6)).block, (ad385.add ((x13_2).toNat * 6)).off + 1, none⟩ = some (.int .i64 ((rd_T28 l0_2 x13_2).f0.f1)) ∧ w'.cell? ⟨(ad385.add ((x13_2).toNat * 6)).block, (ad385.add ((x13_2).toNat * 6)).off + 2, none⟩ = some (.int .i64 ((rd_T28 l0_2 x13_2).f1)) ∧ w'.cell? ⟨(ad385.add ((x13_2).toNat * 6)).block, (ad385.add ((x13_2).toNat * 6)).off + 3, none⟩ = some (.int .i64 ((rd_T28 l0_2 x13_2).f2)) ∧ w'.cell? ⟨(ad385.add ((x13_2).toNat * 6)).block, (ad385.add ((x13_2).toNat * 6)).off + 4, none⟩ = some (.int .i64 ((rd_T28 l0_2 x13_2).f3)) ∧ w'.cell? ⟨(ad385.add ((x13_2).toNat * 6)).block, (ad385.add ((x13_2).toNat * 6)).off + 5, none⟩ = some (.int .i64 ((rd_T28 l0_2 x13_2).f4))) (ds := []) #[false, false, false, false, false, false, false, false, false, false, false, false, false, false] (by kernel_rfl) rfl rfl ⟨(blk_cell BK376.out 0).trans rfl, (blk_cell BK376.out 1).trans rfl, (blk_cell BK376.out 2).trans rfl, (blk_cell BK361.out 0).trans rfl, (blk_cell BK361.out 1).trans rfl, (blk_cell BK361.out 2).trans rfl, ((HB.out.cell (World.block_lt_of_cell? w _ hw385_0)).trans hw385_0), ((HB.out.cell (World.block_lt_of_cell? w _ hw385_1)).trans hw385_1), ((HB.out.cell (World.block_lt_of_cell? w _ hw385_2)).trans hw385_2), ((HB.out.cell (World.block_lt_of_cell? w _ hw385_3)).trans hw385_3), ((HB.out.cell (World.block_lt_of_cell? w _ hw385_4)).trans hw385_4), ((HB.out.cell (World.block_lt_of_cell? w _ hw385_5)).trans hw385_5)⟩ (fun hHeld => ?_); refine with_tabW watchmanlaw08_BoardPass.tab11 watchmanlaw08_BoardPass.bits11 (fun HT_ HW_ => ?_)
                      generalize wr.drew = w55 at HO_370002 HO_377002 HO_384002 BK361 BK369 BK376 BK383 HB hx385_0 hx385_1 hx385_2 hx385_3 hx385_4 hx385_5 hHeld ⊢
                      refine pure_ (i := 1) (N := some 64) (v := ?_) (a' := ?_) #[false, true, false, false, false, false, false, false, false, false, false, false, false, false] rfl rfl (any_of HT_.out (by kernel_rfl)) (fun _ _ _ h => h) (Or.inl ⟨by rfl, ?_⟩) ?_ ?_
                      rotate_left
                      · intro w'
                        go_simp
                        with_reducible rfl
                      rotate_left; (simp only [Act.put, List.setIfInBounds_toArray, List.set_cons_zero, List.set_cons_succ, i64_w, i32_w]; rfl)
                      refine pure_ (i := 3) (N := some 66) (v := ?_) (a' := ?_) #[false, true, false, true, false, false, false, false, false, false, false, false, false, false] rfl rfl (any_of HT_.out (by kernel_rfl)) (fun _ _ _ h => h) (Or.inl ⟨by rfl, ?_⟩) ?_ ?_
                      rotate_left
                      · intro w'
                        go_simp
                        with_reducible rfl
                      rotate_left; (simp only [Act.put, List.setIfInBounds_toArray, List.set_cons_zero, List.set_cons_succ, i64_w, i32_w]; rfl)
                      refine take_ (i := 0) (N := some 63) (v := ?_) (a' := ?_) #[true, true, false, true, false, false, false, false, false, false, false, false, false, false] rfl rfl (take_ofW HT_.out HW_.out (by kernel_rfl)) (fun _ _ _ h => h) (Or.inl ⟨by rfl, ?_⟩) hHeld ?_ ?_
                      rotate_left
                      · rintro w' ⟨s0, s1, s2, s3, s4, s5, s6, s7, s8, s9, s10, s11⟩
                        go_simp
                        with_reducible rfl
                      rotate_left; (simp only [Act.put, List.setIfInBounds_toArray, List.set_cons_zero, List.set_cons_succ, i64_w, i32_w]; rfl)
                      refine take_ (i := 2) (N := some 65) (v := ?_) (a' := ?_) (dn_ 4 14) rfl rfl (take_ofW HT_.out HW_.out (by kernel_rfl)) (fun _ _ _ h => h) (Or.inl ⟨by rfl, ?_⟩) hHeld ?_ ?_
                      rotate_left
                      · rintro w' ⟨s0, s1, s2, s3, s4, s5, s6, s7, s8, s9, s10, s11⟩
                        go_simp
                        with_reducible rfl
                      rotate_left; (simp only [Act.put, List.setIfInBounds_toArray, List.set_cons_zero, List.set_cons_succ, i64_w, i32_w]; rfl)
                      refine pure_ (i := 4) (N := some 67) (v := ?_) (a' := ?_) (dn_ 5 14) rfl rfl (any_of HT_.out (by kernel_rfl)) (fun _ _ _ h => h) (Or.inl ⟨by rfl, ?_⟩) ?_ ?_
                      rotate_left
                      · intro w'
                        go_simp
                        with_reducible rfl
                      rotate_left; (simp only [Act.put, List.setIfInBounds_toArray, List.set_cons_zero, List.set_cons_succ, i64_w, i32_w]; rfl)
                      refine pure_ (i := 5) (N := some 68) (v := ?_) (a' := ?_) (dn_ 6 14) rfl rfl (any_of HT_.out (by kernel_rfl)) (fun _ _ _ h => h) (Or.inl ⟨by rfl, ?_⟩) ?_ ?_
                      rotate_left
                      · intro w'
                        go_simp
                        with_reducible rfl
                      rotate_left; (simp only [Act.put, List.setIfInBounds_toArray, List.set_cons_zero, List.set_cons_succ, i64_w, i32_w]; rfl)
                      refine take_ (i := 6) (N := some 69) (v := ?_) (a' := ?_) (dn_ 7 14) rfl rfl (take_ofW HT_.out HW_.out (by kernel_rfl)) (fun _ _ _ h => h) (Or.inl ⟨by rfl, ?_⟩) hHeld ?_ ?_
                      rotate_left
                      · rintro w' ⟨s0, s1, s2, s3, s4, s5, s6, s7, s8, s9, s10, s11⟩
                        go_simp
                        with_reducible rfl
                      rotate_left; (simp only [Act.put, List.setIfInBounds_toArray, List.set_cons_zero, List.set_cons_succ, i64_w, i32_w]; rfl)
                      refine join_ (σ := Nat) 2 (dn_ 12 14) (fun s_ => [(70, .tuple #[.agg #[.int .i64 t386, .int .i64 t387, .int .i64 t388, .int .i64 t389, .int .i64 t390, .int .i64 t391], .bool true]), (14, .pointer (some ⟨s_, 0, none⟩)), (62, .tuple #[.agg #[.int .i64 t386, .int .i64 t387, .int .i64 t388, .int .i64 t389, .int .i64 t390, .int .i64 t391], .bool true]), (71, .agg #[.int .i64 t386, .int .i64 t387, .int .i64 t388, .int .i64 t389, .int .i64 t390, .int .i64 t391]), (72, .bool true)]) (fun s_ w' => (w'.cell? ⟨gb376, 0, none⟩ = some (.int .i64 t370) ∧ w'.cell? ⟨gb376, 1, none⟩ = some (.int .i64 t371) ∧ w'.cell? ⟨gb376, 2, none⟩ = some (.slice Ao27 t372.length co27) ∧ w'.cell? ⟨gb361, 0, none⟩ = some (.int .i64 a0_0) ∧ w'.cell? ⟨gb361, 1, none⟩ = some (.int .i64 a0_1) ∧ w'.cell? ⟨gb361, 2, none⟩ = some (.slice (some ad385) l0_2.length c0_2) ∧ w'.cell? (ad385.add ((x13_2).toNat * 6)) = some (.int .i64 ((rd_T28 l0_2 x13_2).f0.f0)) ∧ w'.cell? ⟨(ad385.add ((x13_2).toNat * 6)).block, (ad385.add ((x13_2).toNat * 6)).off + 1, none⟩ = some (.int .i64 ((rd_T28 l0_2 x13_2).f0.f1)) ∧ w'.cell? ⟨(ad385.add ((x13_2).toNat * 6)).block, (ad385.add ((x13_2).toNat * 6)).off + 2, none⟩ = some (.int .i64 ((rd_T28 l0_2 x13_2).f1)) ∧ w'.cell? ⟨(ad385.add ((x13_2).toNat * 6)).block, (ad385.add ((x13_2).toNat * 6)).off + 3, none⟩ = some (.int .i64 ((rd_T28 l0_2 x13_2).f2)) ∧ w'.cell? ⟨(ad385.add ((x13_2).toNat * 6)).block, (ad385.add ((x13_2).toNat * 6)).off + 4, none⟩ = some (.int .i64 ((rd_T28 l0_2 x13_2).f3)) ∧ w'.cell? ⟨(ad385.add ((x13_2).toNat * 6)).block, (ad385.add ((x13_2).toNat * 6)).off + 5, none⟩ = some (.int .i64 ((rd_T28 l0_2 x13_2).f4))) ∧ (Kd.R k28 28 w' w.heap.size (fun k_ => some k_ ≠ (.slice Ao27 t372.length co27 : Value).ownBlock ∧ some k_ ≠ (.slice Ao35 t379.length co35 : Value).ownBlock ∧ k_ ≠ s_) (.slice Ao21 t365.length co21) t365) ∧ (Kd.R k28 28 w' w.heap.size (fun k_ => some k_ ≠ (.slice Ao21 t365.length co21 : Value).ownBlock ∧ some k_ ≠ (.slice Ao35 t379.length co35 : Value).ownBlock ∧ k_ ≠ s_) (.slice Ao27 t372.length co27) t372) ∧ (Kd.R k28 28 w' w.heap.size (fun k_ => some k_ ≠ (.slice Ao21 t365.length co21 : Value).ownBlock ∧ some k_ ≠ (.slice Ao27 t372.length co27 : Value).ownBlock ∧ k_ ≠ s_) (.slice Ao35 t379.length co35) t379) ∧ (w'.heap[gb361]? = some (.cells #[.int .i64 a0_0, .int .i64 a0_1, .slice (some ad385) l0_2.length c0_2] 24 (0, 0))) ∧ (w'.heap[gb369]? = some (.cells #[.int .i64 t363, .int .i64 t364, .slice Ao21 t365.length co21] 24 (0, 0))) ∧ (w'.heap[gb376]? = some (.cells #[.int .i64 t370, .int .i64 t371, .slice Ao27 t372.length co27] 24 (0, 0))) ∧ (w'.heap[gb383]? = some (.cells #[.int .i64 t377, .int .i64 t378, .slice Ao35 t379.length co35] 24 (0, 0))) ∧ (w'.heap[s_]? = some (.cells #[.int .i64 0, .int .i64 0, .int .i64 0, .int .i64 0, .int .i64 0, .int .i64 0] 28 (0, 0))) ∧ (w.heap.size ≤ s_) ∧ (w.heap.size ≤ s_) ∧ (gb361 ≠ s_) ∧ (s_ ≠ gb361) ∧ (gb369 ≠ s_) ∧ (s_ ≠ gb369) ∧ (gb376 ≠ s_) ∧ (s_ ≠ gb376) ∧ (gb383 ≠ s_) ∧ (s_ ≠ gb383) ∧ (Below w.heap.size w w')) ?_ ?_
                      rotate_left
                      · intro hCont
                        refine two_ (i := 7) (j := 11) (Ni := some 70) (Nj := some 14) (dn_ 8 14) #[true, true, true, true, true, true, true, false, false, false, false, true, false, false] rfl rfl rfl rfl (two_of HT_.out (by kernel_rfl)) (by decide) (by decide) (fun K hK => ?_) (fun K hK => ?_)
                        · skip
                          refine goes_ Try.func21 (by kernel_rfl) rfl #[.agg #[.int .i64 t370, .int .i64 t371, .slice Ao27 t372.length co27], .agg #[.int .i64 ((rd_T28 l0_2 x13_2).f0.f0), .int .i64 ((rd_T28 l0_2 x13_2).f0.f1)]] (by rfl) rfl rfl (by (try simp only [List.map_toArray, List.map_cons, List.map_nil]); first | done | rfl | (simp only [List.length_drop, List.length_take]; rfl)) ?_
                          with_reducible refine (board_Get.calls t370 t371 _ _ t372 ((rd_T28 l0_2 x13_2).f0.f0) ((rd_T28 l0_2 x13_2).f0.f1) t386 t387 t388 t389 t390 t391 true _ ?side1 ?side2 A47.out).mono ?_
                          (case side1 => repeat (first | exact (Kd.R_reads' HO_377002.out).2.2 | (with_reducible refine Kd.C_alloc ?_ _) | (with_reducible refine Kd.C_drewN ?_ _) | (with_reducible refine Kd.C_drew ?_)))
                          (case side2 => exact (Kd.R_reads' HO_377002.out).2.1)
                          rintro e w56 ⟨rfl, hb⟩
                          refine ⟨_, rfl, ?_⟩
                          have n0_ := Aside0.mk (Kd.R_below (HO_370002.out) hb)
                          have n1_ := Aside0.mk (Kd.R_below (HO_377002.out) hb)
                          have n2_ := Aside0.mk (Kd.R_below (HO_384002.out) hb)
                          have n3_ := Aside0.mk (blk_below BK361.out hb)
                          have n4_ := Aside0.mk (blk_below BK369.out hb)
                          have n5_ := Aside0.mk (blk_below BK376.out hb)
                          have n6_ := Aside0.mk (blk_below BK383.out hb)
                          have n7_ := Aside0.mk (below_step (by repeat (with_reducible first | exact HB.out | apply pw_below_drewN | apply below_drew1 | refine below_set ?_ GE361.out | refine below_set ?_ GE369.out | refine below_set ?_ GE376.out | refine below_set ?_ GE383.out)) hb)
                          clear HO_370002
                          clear HO_377002
                          clear HO_384002
                          clear BK361
                          clear BK369
                          clear BK376
                          clear BK383
                          clear HB
                          have HO_370002 := n0_
                          have HO_377002 := n1_
                          have HO_384002 := n2_
                          have BK361 := n3_
                          have BK369 := n4_
                          have BK376 := n5_
                          have BK383 := n6_
                          have HB := n7_
                          clear n0_ n1_ n2_ n3_ n4_ n5_ n6_ n7_
                          (try clear hb)
                          (try clear hb2)
                          (try clear hk)
                          (try clear hi)
                          refine hK.out _ _ ⟨(blk_cell BK376.out 0).trans rfl, (blk_cell BK376.out 1).trans rfl, (blk_cell BK376.out 2).trans rfl, (blk_cell BK361.out 0).trans rfl, (blk_cell BK361.out 1).trans rfl, (blk_cell BK361.out 2).trans rfl, ((HB.out.cell (World.block_lt_of_cell? w _ hw385_0)).trans hw385_0), ((HB.out.cell (World.block_lt_of_cell? w _ hw385_1)).trans hw385_1), ((HB.out.cell (World.block_lt_of_cell? w _ hw385_2)).trans hw385_2), ((HB.out.cell (World.block_lt_of_cell? w _ hw385_3)).trans hw385_3), ((HB.out.cell (World.block_lt_of_cell? w _ hw385_4)).trans hw385_4), ((HB.out.cell (World.block_lt_of_cell? w _ hw385_5)).trans hw385_5)⟩ (fun hHeld => ?_)
                          clear hK K
                          refine norm_ (a' := ?_) ?_ ?_
                          rotate_left
                          · show Act.put _ (some 70) _ = _
                            simp only [Act.put, List.setIfInBounds_toArray, List.set_cons_zero, List.set_cons_succ, i64_w, i32_w]
                            rfl
                          refine pure_ (i := 8) (N := some 62) (v := ?_) (a' := ?_) (dn_ 9 14) rfl rfl (any_of HT_.out (by kernel_rfl)) (fun _ _ _ h => h) (Or.inl ⟨by rfl, ?_⟩) ?_ ?_
                          rotate_left
                          · intro w'
                            go_simp
                            with_reducible rfl
                          rotate_left; (simp only [Act.put, List.setIfInBounds_toArray, List.set_cons_zero, List.set_cons_succ, i64_w, i32_w]; rfl)
                          refine pure_ (i := 9) (N := some 71) (v := ?_) (a' := ?_) (dn_ 10 14) rfl rfl (any_of HT_.out (by kernel_rfl)) (fun _ _ _ h => h) (Or.inl ⟨by rfl, ?_⟩) ?_ ?_
                          rotate_left
                          · intro w'
                            go_simp
                            with_reducible rfl
                          rotate_left; (simp only [Act.put, List.setIfInBounds_toArray, List.set_cons_zero, List.set_cons_succ, i64_w, i32_w]; rfl)
                          refine pure_ (i := 10) (N := some 72) (v := ?_) (a' := ?_) (dn_ 11 14) rfl rfl (any_of HT_.out (by kernel_rfl)) (fun _ _ _ h => h) (Or.inl ⟨by rfl, ?_⟩) ?_ ?_
                          rotate_left
                          · intro w'
                            go_simp
                            with_reducible rfl
                          rotate_left; (simp only [Act.put, List.setIfInBounds_toArray, List.set_cons_zero, List.set_cons_succ, i64_w, i32_w]; rfl)
                          refine one_ (i := 11) (N := some 14) (dn_ 12 14) rfl rfl (one_of HT_.out (by kernel_rfl)) (by decide) (fun K hK => ?_)
                          refine box_step ?hg (N := 14) ?hd (cs := #[.int .i64 0, .int .i64 0, .int .i64 0, .int .i64 0, .int .i64 0, .int .i64 0]) (t := 28) ?hr ?_; (case hd => rfl); (case hg => rfl); (case hr => first | (go_simp; done) | (go_simp; rfl))
                          intro gb393 hg w57 hbox hb
                          have n0_ := Aside0.mk (Kd.R_below (Kd.R_elderB (HO_370002.out) gb393 (Nat.le_of_eq hg.symm)) hb)
                          have n1_ := Aside0.mk (Kd.R_below (Kd.R_elderB (HO_377002.out) gb393 (Nat.le_of_eq hg.symm)) hb)
                          have n2_ := Aside0.mk (Kd.R_below (Kd.R_elderB (HO_384002.out) gb393 (Nat.le_of_eq hg.symm)) hb)
                          have n3_ := Aside0.mk (blk_below BK361.out hb)
                          have n4_ := Aside0.mk (blk_below BK369.out hb)
                          have n5_ := Aside0.mk (blk_below BK376.out hb)
                          have n6_ := Aside0.mk (blk_below BK383.out hb)
                          have n7_ := Aside0.mk (below_step (by repeat (with_reducible first | exact HB.out | apply pw_below_drewN | apply below_drew1 | refine below_set ?_ GE361.out | refine below_set ?_ GE369.out | refine below_set ?_ GE376.out | refine below_set ?_ GE383.out)) hb)
                          have n8_ := Aside0.mk (hbox)
                          have n9_ := Aside0.mk ((by rw [hg]; exact (below_size (by repeat (with_reducible first | exact HB.out | apply pw_below_drewN | apply below_drew1 | refine below_set ?_ GE361.out | refine below_set ?_ GE369.out | refine below_set ?_ GE376.out | refine below_set ?_ GE383.out))) : w.heap.size ≤ gb393))
                          have n10_ := Aside0.mk ((by rw [hg]; exact (below_size (by repeat (with_reducible first | exact HB.out | apply pw_below_drewN | apply below_drew1 | refine below_set ?_ GE361.out | refine below_set ?_ GE369.out | refine below_set ?_ GE376.out | refine below_set ?_ GE383.out))) : w.heap.size ≤ gb393))
                          have n11_ := Aside0.mk ((by rw [hg]; exact Nat.ne_of_lt (blk_lt BK361.out) : gb361 ≠ gb393))
                          have n12_ := Aside0.mk ((by rw [hg]; exact Nat.ne_of_gt (blk_lt BK361.out) : gb393 ≠ gb361))
                          have n13_ := Aside0.mk ((by rw [hg]; exact Nat.ne_of_lt (blk_lt BK369.out) : gb369 ≠ gb393))
                          have n14_ := Aside0.mk ((by rw [hg]; exact Nat.ne_of_gt (blk_lt BK369.out) : gb393 ≠ gb369))
                          have n15_ := Aside0.mk ((by rw [hg]; exact Nat.ne_of_lt (blk_lt BK376.out) : gb376 ≠ gb393))
                          have n16_ := Aside0.mk ((by rw [hg]; exact Nat.ne_of_gt (blk_lt BK376.out) : gb393 ≠ gb376))
                          have n17_ := Aside0.mk ((by rw [hg]; exact Nat.ne_of_lt (blk_lt BK383.out) : gb383 ≠ gb393))
                          have n18_ := Aside0.mk ((by rw [hg]; exact Nat.ne_of_gt (blk_lt BK383.out) : gb393 ≠ gb383))
                          clear HO_370002
                          clear HO_377002
                          clear HO_384002
                          clear BK361
                          clear BK369
                          clear BK376
                          clear BK383
                          clear HB
                          have HO_370002 := n0_
                          have HO_377002 := n1_
                          have HO_384002 := n2_
                          have BK361 := n3_
                          have BK369 := n4_
                          have BK376 := n5_
                          have BK383 := n6_
                          have HB := n7_
                          have BK393 := n8_
                          have GW393 := n9_
                          have GE393 := n10_
                          have NB361_393 := n11_
                          have NB393_361 := n12_
                          have NB369_393 := n13_
                          have NB393_369 := n14_
                          have NB376_393 := n15_
                          have NB393_376 := n16_
                          have NB383_393 := n17_
                          have NB393_383 := n18_
                          clear n0_ n1_ n2_ n3_ n4_ n5_ n6_ n7_ n8_ n9_ n10_ n11_ n12_ n13_ n14_ n15_ n16_ n17_ n18_
                          clear hb hbox hg
                          refine hK.out _ _ ⟨(blk_cell BK376.out 0).trans rfl, (blk_cell BK376.out 1).trans rfl, (blk_cell BK376.out 2).trans rfl, (blk_cell BK361.out 0).trans rfl, (blk_cell BK361.out 1).trans rfl, (blk_cell BK361.out 2).trans rfl, ((HB.out.cell (World.block_lt_of_cell? w _ hw385_0)).trans hw385_0), ((HB.out.cell (World.block_lt_of_cell? w _ hw385_1)).trans hw385_1), ((HB.out.cell (World.block_lt_of_cell? w _ hw385_2)).trans hw385_2), ((HB.out.cell (World.block_lt_of_cell? w _ hw385_3)).trans hw385_3), ((HB.out.cell (World.block_lt_of_cell? w _ hw385_4)).trans hw385_4), ((HB.out.cell (World.block_lt_of_cell? w _ hw385_5)).trans hw385_5)⟩ (fun hHeld => ?_)
                          clear hK K
                          refine norm_ (a' := ?_) ?_ ?_
                          rotate_left
                          · show Act.put _ (some 14) _ = _
                            simp only [Act.put, List.setIfInBounds_toArray, List.set_cons_zero, List.set_cons_succ, i64_w, i32_w]
                            rfl
                          exact norm_ (by simp only [putAll, Act.put, List.setIfInBounds_toArray, List.set_cons_zero, List.set_cons_succ]) (hCont (gb393) _ ⟨hHeld, (by (with_reducible repeat (first | apply Kd.R_alloc | apply Kd.R_drewN | apply Kd.R_drew)); exact Kd.R_mono HO_370002.out (fun _ hk => ⟨hk.1.1, ⟨hk.1.2, hk.2⟩⟩)), (by (with_reducible repeat (first | apply Kd.R_alloc | apply Kd.R_drewN | apply Kd.R_drew)); exact Kd.R_mono HO_377002.out (fun _ hk => ⟨hk.1.1, ⟨hk.1.2, hk.2⟩⟩)), (by (with_reducible repeat (first | apply Kd.R_alloc | apply Kd.R_drewN | apply Kd.R_drew)); exact Kd.R_mono HO_384002.out (fun _ hk => ⟨hk.1.1, ⟨hk.1.2, hk.2⟩⟩)), (by (with_reducible repeat (first | refine blk_drewN ?_ _ | refine blk_drew ?_ | refine blk_alloc ?_ _)); exact BK361.out), (by (with_reducible repeat (first | refine blk_drewN ?_ _ | refine blk_drew ?_ | refine blk_alloc ?_ _)); exact BK369.out), (by (with_reducible repeat (first | refine blk_drewN ?_ _ | refine blk_drew ?_ | refine blk_alloc ?_ _)); exact BK376.out), (by (with_reducible repeat (first | refine blk_drewN ?_ _ | refine blk_drew ?_ | refine blk_alloc ?_ _)); exact BK383.out), (by (with_reducible repeat (first | refine blk_drewN ?_ _ | refine blk_drew ?_ | refine blk_alloc ?_ _)); exact BK393.out), GW393.out, GE393.out, NB361_393.out, NB393_361.out, NB369_393.out, NB393_369.out, NB376_393.out, NB393_376.out, NB383_393.out, NB393_383.out, (by repeat (with_reducible first | exact HB.out | apply pw_below_drewN | apply below_drew1 | refine below_set ?_ GE361.out | refine below_set ?_ GE369.out | refine below_set ?_ GE376.out | refine below_set ?_ GE383.out | refine below_set ?_ GE393.out))⟩)
                        · skip
                          refine box_step ?hg (N := 14) ?hd (cs := #[.int .i64 0, .int .i64 0, .int .i64 0, .int .i64 0, .int .i64 0, .int .i64 0]) (t := 28) ?hr ?_; (case hd => rfl); (case hg => rfl); (case hr => first | (go_simp; done) | (go_simp; rfl))
                          intro gb393 hg w56 hbox hb
                          have n0_ := Aside0.mk (Kd.R_below (Kd.R_elderB (HO_370002.out) gb393 (Nat.le_of_eq hg.symm)) hb)
                          have n1_ := Aside0.mk (Kd.R_below (Kd.R_elderB (HO_377002.out) gb393 (Nat.le_of_eq hg.symm)) hb)
                          have n2_ := Aside0.mk (Kd.R_below (Kd.R_elderB (HO_384002.out) gb393 (Nat.le_of_eq hg.symm)) hb)
                          have n3_ := Aside0.mk (blk_below BK361.out hb)
                          have n4_ := Aside0.mk (blk_below BK369.out hb)
                          have n5_ := Aside0.mk (blk_below BK376.out hb)
                          have n6_ := Aside0.mk (blk_below BK383.out hb)
                          have n7_ := Aside0.mk (below_step (by repeat (with_reducible first | exact HB.out | apply pw_below_drewN | apply below_drew1 | refine below_set ?_ GE361.out | refine below_set ?_ GE369.out | refine below_set ?_ GE376.out | refine below_set ?_ GE383.out)) hb)
                          have n8_ := Aside0.mk (hbox)
                          have n9_ := Aside0.mk ((by rw [hg]; exact (below_size (by repeat (with_reducible first | exact HB.out | apply pw_below_drewN | apply below_drew1 | refine below_set ?_ GE361.out | refine below_set ?_ GE369.out | refine below_set ?_ GE376.out | refine below_set ?_ GE383.out))) : w.heap.size ≤ gb393))
                          have n10_ := Aside0.mk ((by rw [hg]; exact (below_size (by repeat (with_reducible first | exact HB.out | apply pw_below_drewN | apply below_drew1 | refine below_set ?_ GE361.out | refine below_set ?_ GE369.out | refine below_set ?_ GE376.out | refine below_set ?_ GE383.out))) : w.heap.size ≤ gb393))
                          have n11_ := Aside0.mk ((by rw [hg]; exact Nat.ne_of_lt (blk_lt BK361.out) : gb361 ≠ gb393))
                          have n12_ := Aside0.mk ((by rw [hg]; exact Nat.ne_of_gt (blk_lt BK361.out) : gb393 ≠ gb361))
                          have n13_ := Aside0.mk ((by rw [hg]; exact Nat.ne_of_lt (blk_lt BK369.out) : gb369 ≠ gb393))
                          have n14_ := Aside0.mk ((by rw [hg]; exact Nat.ne_of_gt (blk_lt BK369.out) : gb393 ≠ gb369))
                          have n15_ := Aside0.mk ((by rw [hg]; exact Nat.ne_of_lt (blk_lt BK376.out) : gb376 ≠ gb393))
                          have n16_ := Aside0.mk ((by rw [hg]; exact Nat.ne_of_gt (blk_lt BK376.out) : gb393 ≠ gb376))
                          have n17_ := Aside0.mk ((by rw [hg]; exact Nat.ne_of_lt (blk_lt BK383.out) : gb383 ≠ gb393))
                          have n18_ := Aside0.mk ((by rw [hg]; exact Nat.ne_of_gt (blk_lt BK383.out) : gb393 ≠ gb383))
                          clear HO_370002
                          clear HO_377002
                          clear HO_384002
                          clear BK361
                          clear BK369
                          clear BK376
                          clear BK383
                          clear HB
                          have HO_370002 := n0_
                          have HO_377002 := n1_
                          have HO_384002 := n2_
                          have BK361 := n3_
                          have BK369 := n4_
                          have BK376 := n5_
                          have BK383 := n6_
                          have HB := n7_
                          have BK393 := n8_
                          have GW393 := n9_
                          have GE393 := n10_
                          have NB361_393 := n11_
                          have NB393_361 := n12_
                          have NB369_393 := n13_
                          have NB393_369 := n14_
                          have NB376_393 := n15_
                          have NB393_376 := n16_
                          have NB383_393 := n17_
                          have NB393_383 := n18_
                          clear n0_ n1_ n2_ n3_ n4_ n5_ n6_ n7_ n8_ n9_ n10_ n11_ n12_ n13_ n14_ n15_ n16_ n17_ n18_
                          clear hb hbox hg
                          refine hK.out _ _ ⟨(blk_cell BK376.out 0).trans rfl, (blk_cell BK376.out 1).trans rfl, (blk_cell BK376.out 2).trans rfl, (blk_cell BK361.out 0).trans rfl, (blk_cell BK361.out 1).trans rfl, (blk_cell BK361.out 2).trans rfl, ((HB.out.cell (World.block_lt_of_cell? w _ hw385_0)).trans hw385_0), ((HB.out.cell (World.block_lt_of_cell? w _ hw385_1)).trans hw385_1), ((HB.out.cell (World.block_lt_of_cell? w _ hw385_2)).trans hw385_2), ((HB.out.cell (World.block_lt_of_cell? w _ hw385_3)).trans hw385_3), ((HB.out.cell (World.block_lt_of_cell? w _ hw385_4)).trans hw385_4), ((HB.out.cell (World.block_lt_of_cell? w _ hw385_5)).trans hw385_5)⟩ (fun hHeld => ?_)
                          clear hK K
                          refine norm_ (a' := ?_) ?_ ?_
                          rotate_left
                          · show Act.put _ (some 14) _ = _
                            simp only [Act.put, List.setIfInBounds_toArray, List.set_cons_zero, List.set_cons_succ, i64_w, i32_w]
                            rfl
                          refine one_ (i := 7) (N := some 70) #[true, true, true, true, true, true, true, true, false, false, false, true, false, false] rfl rfl (one_of HT_.out (by kernel_rfl)) (by decide) (fun K hK => ?_)
                          refine goes_ Try.func21 (by kernel_rfl) rfl #[.agg #[.int .i64 t370, .int .i64 t371, .slice Ao27 t372.length co27], .agg #[.int .i64 ((rd_T28 l0_2 x13_2).f0.f0), .int .i64 ((rd_T28 l0_2 x13_2).f0.f1)]] (by rfl) rfl rfl (by (try simp only [List.map_toArray, List.map_cons, List.map_nil]); first | done | rfl | (simp only [List.length_drop, List.length_take]; rfl)) ?_
                          with_reducible refine (board_Get.calls t370 t371 _ _ t372 ((rd_T28 l0_2 x13_2).f0.f0) ((rd_T28 l0_2 x13_2).f0.f1) t386 t387 t388 t389 t390 t391 true _ ?side1 ?side2 A47.out).mono ?_
                          (case side1 => repeat (first | exact (Kd.R_reads' HO_377002.out).2.2 | (with_reducible refine Kd.C_alloc ?_ _) | (with_reducible refine Kd.C_drewN ?_ _) | (with_reducible refine Kd.C_drew ?_)))
                          (case side2 => exact (Kd.R_reads' HO_377002.out).2.1)
                          rintro e w57 ⟨rfl, hb⟩
                          refine ⟨_, rfl, ?_⟩
                          have n0_ := Aside0.mk (Kd.R_below (HO_370002.out) hb)
                          have n1_ := Aside0.mk (Kd.R_below (HO_377002.out) hb)
                          have n2_ := Aside0.mk (Kd.R_below (HO_384002.out) hb)
                          have n3_ := Aside0.mk (blk_below BK361.out hb)
                          have n4_ := Aside0.mk (blk_below BK369.out hb)
                          have n5_ := Aside0.mk (blk_below BK376.out hb)
                          have n6_ := Aside0.mk (blk_below BK383.out hb)
                          have n7_ := Aside0.mk (blk_below BK393.out hb)
                          have n8_ := Aside0.mk (below_step (by repeat (with_reducible first | exact HB.out | apply pw_below_drewN | apply below_drew1 | refine below_set ?_ GE361.out | refine below_set ?_ GE369.out | refine below_set ?_ GE376.out | refine below_set ?_ GE383.out | refine below_set ?_ GE393.out)) hb)
                          clear HO_370002
                          clear HO_377002
                          clear HO_384002
                          clear BK361
                          clear BK369
                          clear BK376
                          clear BK383
                          clear BK393
                          clear HB
                          have HO_370002 := n0_
                          have HO_377002 := n1_
                          have HO_384002 := n2_
                          have BK361 := n3_
                          have BK369 := n4_
                          have BK376 := n5_
                          have BK383 := n6_
                          have BK393 := n7_
                          have HB := n8_
                          clear n0_ n1_ n2_ n3_ n4_ n5_ n6_ n7_ n8_
                          (try clear hb)
                          (try clear hb2)
                          (try clear hk)
                          (try clear hi)
                          refine hK.out _ _ ⟨(blk_cell BK376.out 0).trans rfl, (blk_cell BK376.out 1).trans rfl, (blk_cell BK376.out 2).trans rfl, (blk_cell BK361.out 0).trans rfl, (blk_cell BK361.out 1).trans rfl, (blk_cell BK361.out 2).trans rfl, ((HB.out.cell (World.block_lt_of_cell? w _ hw385_0)).trans hw385_0), ((HB.out.cell (World.block_lt_of_cell? w _ hw385_1)).trans hw385_1), ((HB.out.cell (World.block_lt_of_cell? w _ hw385_2)).trans hw385_2), ((HB.out.cell (World.block_lt_of_cell? w _ hw385_3)).trans hw385_3), ((HB.out.cell (World.block_lt_of_cell? w _ hw385_4)).trans hw385_4), ((HB.out.cell (World.block_lt_of_cell? w _ hw385_5)).trans hw385_5)⟩ (fun hHeld => ?_)
                          clear hK K
                          refine norm_ (a' := ?_) ?_ ?_
                          rotate_left
                          · show Act.put _ (some 70) _ = _
                            simp only [Act.put, List.setIfInBounds_toArray, List.set_cons_zero, List.set_cons_succ, i64_w, i32_w]
                            rfl
                          refine pure_ (i := 8) (N := some 62) (v := ?_) (a' := ?_) #[true, true, true, true, true, true, true, true, true, false, false, true, false, false] rfl rfl (any_of HT_.out (by kernel_rfl)) (fun _ _ _ h => h) (Or.inl ⟨by rfl, ?_⟩) ?_ ?_
                          rotate_left
                          · intro w'
                            go_simp
                            with_reducible rfl
                          rotate_left; (simp only [Act.put, List.setIfInBounds_toArray, List.set_cons_zero, List.set_cons_succ, i64_w, i32_w]; rfl)
                          refine pure_ (i := 9) (N := some 71) (v := ?_) (a' := ?_) #[true, true, true, true, true, true, true, true, true, true, false, true, false, false] rfl rfl (any_of HT_.out (by kernel_rfl)) (fun _ _ _ h => h) (Or.inl ⟨by rfl, ?_⟩) ?_ ?_
                          rotate_left
                          · intro w'
                            go_simp
                            with_reducible rfl
                          rotate_left; (simp only [Act.put, List.setIfInBounds_toArray, List.set_cons_zero, List.set_cons_succ, i64_w, i32_w]; rfl)
                          refine pure_ (i := 10) (N := some 72) (v := ?_) (a' := ?_) (dn_ 12 14) rfl rfl (any_of HT_.out (by kernel_rfl)) (fun _ _ _ h => h) (Or.inl ⟨by rfl, ?_⟩) ?_ ?_
                          rotate_left
                          · intro w'
                            go_simp
                            with_reducible rfl
                          rotate_left; (simp only [Act.put, List.setIfInBounds_toArray, List.set_cons_zero, List.set_cons_succ, i64_w, i32_w]; rfl)
                          exact norm_ (by simp only [putAll, Act.put, List.setIfInBounds_toArray, List.set_cons_zero, List.set_cons_succ]) (hCont (gb393) _ ⟨hHeld, (by (with_reducible repeat (first | apply Kd.R_alloc | apply Kd.R_drewN | apply Kd.R_drew)); exact Kd.R_mono HO_370002.out (fun _ hk => ⟨hk.1.1, ⟨hk.1.2, hk.2⟩⟩)), (by (with_reducible repeat (first | apply Kd.R_alloc | apply Kd.R_drewN | apply Kd.R_drew)); exact Kd.R_mono HO_377002.out (fun _ hk => ⟨hk.1.1, ⟨hk.1.2, hk.2⟩⟩)), (by (with_reducible repeat (first | apply Kd.R_alloc | apply Kd.R_drewN | apply Kd.R_drew)); exact Kd.R_mono HO_384002.out (fun _ hk => ⟨hk.1.1, ⟨hk.1.2, hk.2⟩⟩)), (by (with_reducible repeat (first | refine blk_drewN ?_ _ | refine blk_drew ?_ | refine blk_alloc ?_ _)); exact BK361.out), (by (with_reducible repeat (first | refine blk_drewN ?_ _ | refine blk_drew ?_ | refine blk_alloc ?_ _)); exact BK369.out), (by (with_reducible repeat (first | refine blk_drewN ?_ _ | refine blk_drew ?_ | refine blk_alloc ?_ _)); exact BK376.out), (by (with_reducible repeat (first | refine blk_drewN ?_ _ | refine blk_drew ?_ | refine blk_alloc ?_ _)); exact BK383.out), (by (with_reducible repeat (first | refine blk_drewN ?_ _ | refine blk_drew ?_ | refine blk_alloc ?_ _)); exact BK393.out), GW393.out, GE393.out, NB361_393.out, NB393_361.out, NB369_393.out, NB393_369.out, NB376_393.out, NB393_376.out, NB383_393.out, NB393_383.out, (by repeat (with_reducible first | exact HB.out | apply pw_below_drewN | apply below_drew1 | refine below_set ?_ GE361.out | refine below_set ?_ GE369.out | refine below_set ?_ GE376.out | refine below_set ?_ GE383.out | refine below_set ?_ GE393.out))⟩)
                      rintro gb393 w58 ⟨hS_, h0_, h1_, h2_, h3_, h4_, h5_, h6_, h7_, h8_, h9_, h10_, h11_, h12_, h13_, h14_, h15_, h16_, h17_, h18_⟩
                      have n0_ : Aside0 (Kd.R k28 28 w58 w.heap.size (fun k_ => some k_ ≠ (.slice Ao27 t372.length co27 : Value).ownBlock ∧ some k_ ≠ (.slice Ao35 t379.length co35 : Value).ownBlock ∧ k_ ≠ gb393) (.slice Ao21 t365.length co21) t365) := ⟨h0_⟩
                      have n1_ : Aside0 (Kd.R k28 28 w58 w.heap.size (fun k_ => some k_ ≠ (.slice Ao21 t365.length co21 : Value).ownBlock ∧ some k_ ≠ (.slice Ao35 t379.length co35 : Value).ownBlock ∧ k_ ≠ gb393) (.slice Ao27 t372.length co27) t372) := ⟨h1_⟩
                      have n2_ : Aside0 (Kd.R k28 28 w58 w.heap.size (fun k_ => some k_ ≠ (.slice Ao21 t365.length co21 : Value).ownBlock ∧ some k_ ≠ (.slice Ao27 t372.length co27 : Value).ownBlock ∧ k_ ≠ gb393) (.slice Ao35 t379.length co35) t379) := ⟨h2_⟩
                      have n3_ : Aside0 (w58.heap[gb361]? = some (.cells #[.int .i64 a0_0, .int .i64 a0_1, .slice (some ad385) l0_2.length c0_2] 24 (0, 0))) := ⟨h3_⟩
                      have n4_ : Aside0 (w58.heap[gb369]? = some (.cells #[.int .i64 t363, .int .i64 t364, .slice Ao21 t365.length co21] 24 (0, 0))) := ⟨h4_⟩
                      have n5_ : Aside0 (w58.heap[gb376]? = some (.cells #[.int .i64 t370, .int .i64 t371, .slice Ao27 t372.length co27] 24 (0, 0))) := ⟨h5_⟩
                      have n6_ : Aside0 (w58.heap[gb383]? = some (.cells #[.int .i64 t377, .int .i64 t378, .slice Ao35 t379.length co35] 24 (0, 0))) := ⟨h6_⟩
                      have n7_ : Aside0 (w58.heap[gb393]? = some (.cells #[.int .i64 0, .int .i64 0, .int .i64 0, .int .i64 0, .int .i64 0, .int .i64 0] 28 (0, 0))) := ⟨h7_⟩
                      have n8_ : Aside0 (w.heap.size ≤ gb393) := ⟨h8_⟩
                      have n9_ : Aside0 (w.heap.size ≤ gb393) := ⟨h9_⟩
                      have n10_ : Aside0 (gb361 ≠ gb393) := ⟨h10_⟩
                      have n11_ : Aside0 (gb393 ≠ gb361) := ⟨h11_⟩
                      have n12_ : Aside0 (gb369 ≠ gb393) := ⟨h12_⟩
                      have n13_ : Aside0 (gb393 ≠ gb369) := ⟨h13_⟩
                      have n14_ : Aside0 (gb376 ≠ gb393) := ⟨h14_⟩
                      have n15_ : Aside0 (gb393 ≠ gb376) := ⟨h15_⟩
                      have n16_ : Aside0 (gb383 ≠ gb393) := ⟨h16_⟩
                      have n17_ : Aside0 (gb393 ≠ gb383) := ⟨h17_⟩
                      have n18_ : Aside0 (Below w.heap.size w w58) := ⟨h18_⟩
                      clear HO_370002
                      clear HO_377002
                      clear HO_384002
                      clear BK361
                      clear BK369
                      clear BK376
                      clear BK383
                      clear HB
                      clear h0_ h1_ h2_ h3_ h4_ h5_ h6_ h7_ h8_ h9_ h10_ h11_ h12_ h13_ h14_ h15_ h16_ h17_ h18_
                      have HO_370002 := n0_
                      have HO_377002 := n1_
                      have HO_384002 := n2_
                      have BK361 := n3_
                      have BK369 := n4_
                      have BK376 := n5_
                      have BK383 := n6_
                      have BK393 := n7_
                      have GW393 := n8_
                      have GE393 := n9_
                      have NB361_393 := n10_
                      have NB393_361 := n11_
                      have NB369_393 := n12_
                      have NB393_369 := n13_
                      have NB376_393 := n14_
                      have NB393_376 := n15_
                      have NB383_393 := n16_
                      have NB393_383 := n17_
                      have HB := n18_
                      clear n0_ n1_ n2_ n3_ n4_ n5_ n6_ n7_ n8_ n9_ n10_ n11_ n12_ n13_ n14_ n15_ n16_ n17_ n18_
                      have hHeld : w58.cell? ⟨gb376, 0, none⟩ = some (.int .i64 t370) ∧ w58.cell? ⟨gb376, 1, none⟩ = some (.int .i64 t371) ∧ w58.cell? ⟨gb376, 2, none⟩ = some (.slice Ao27 t372.length co27) ∧ w58.cell? ⟨gb361, 0, none⟩ = some (.int .i64 a0_0) ∧ w58.cell? ⟨gb361, 1, none⟩ = some (.int .i64 a0_1) ∧ w58.cell? ⟨gb361, 2, none⟩ = some (.slice (some ad385) l0_2.length c0_2) ∧ w58.cell? (ad385.add ((x13_2).toNat * 6)) = some (.int .i64 ((rd_T28 l0_2 x13_2).f0.f0)) ∧ w58.cell? ⟨(ad385.add ((x13_2).toNat * 6)).block, (ad385.add ((x13_2).toNat * 6)).off + 1, none⟩ = some (.int .i64 ((rd_T28 l0_2 x13_2).f0.f1)) ∧ w58.cell? ⟨(ad385.add ((x13_2).toNat * 6)).block, (ad385.add ((x13_2).toNat * 6)).off + 2, none⟩ = some (.int .i64 ((rd_T28 l0_2 x13_2).f1)) ∧ w58.cell? ⟨(ad385.add ((x13_2).toNat * 6)).block, (ad385.add ((x13_2).toNat * 6)).off + 3, none⟩ = some (.int .i64 ((rd_T28 l0_2 x13_2).f2)) ∧ w58.cell? ⟨(ad385.add ((x13_2).toNat * 6)).block, (ad385.add ((x13_2).toNat * 6)).off + 4, none⟩ = some (.int .i64 ((rd_T28 l0_2 x13_2).f3)) ∧ w58.cell? ⟨(ad385.add ((x13_2).toNat * 6)).block, (ad385.add ((x13_2).toNat * 6)).off + 5, none⟩ = some (.int .i64 ((rd_T28 l0_2 x13_2).f4)) := hS_
                      refine norm_ (a' := ?_) ?_ ?_
                      rotate_left; (simp only [putAll, Act.put, List.setIfInBounds_toArray, List.set_cons_zero, List.set_cons_succ]; rfl)
                      refine one_ (i := 12) (N := none) (dn_ 13 14) rfl rfl (one_of HT_.out (by kernel_rfl)) (by decide) (fun K hK => ?_)
                      have hs59 : w58.cell? ⟨gb393, 0, none⟩ = some (.int .i64 0) := (blk_cell BK393.out 0).trans rfl
                      have hfs59 := blk_frozen BK393.out 0
                      have hns59_0 := NB361_393.out
                      have hns59_1 := NB369_393.out
                      have hns59_2 := NB376_393.out
                      have hns59_3 := NB383_393.out
                      have hms59_0 := NB393_361.out
                      have hms59_1 := NB393_369.out
                      have hms59_2 := NB393_376.out
                      have hms59_3 := NB393_383.out
                      have hs60 : w58.cell? ⟨gb393, 1, none⟩ = some (.int .i64 0) := (blk_cell BK393.out 1).trans rfl
                      have hfs60 := blk_frozen BK393.out 1
                      have hns60_0 := NB361_393.out
                      have hns60_1 := NB369_393.out
                      have hns60_2 := NB376_393.out
                      have hns60_3 := NB383_393.out
                      have hms60_0 := NB393_361.out
                      have hms60_1 := NB393_369.out
                      have hms60_2 := NB393_376.out
                      have hms60_3 := NB393_383.out
                      have hs61 : w58.cell? ⟨gb393, 2, none⟩ = some (.int .i64 0) := (blk_cell BK393.out 2).trans rfl
                      have hfs61 := blk_frozen BK393.out 2
                      have hns61_0 := NB361_393.out
                      have hns61_1 := NB369_393.out
                      have hns61_2 := NB376_393.out
                      have hns61_3 := NB383_393.out
                      have hms61_0 := NB393_361.out
                      have hms61_1 := NB393_369.out
                      have hms61_2 := NB393_376.out
                      have hms61_3 := NB393_383.out
                      have hs62 : w58.cell? ⟨gb393, 3, none⟩ = some (.int .i64 0) := (blk_cell BK393.out 3).trans rfl
                      have hfs62 := blk_frozen BK393.out 3
                      have hns62_0 := NB361_393.out
                      have hns62_1 := NB369_393.out
                      have hns62_2 := NB376_393.out
                      have hns62_3 := NB383_393.out
                      have hms62_0 := NB393_361.out
                      have hms62_1 := NB393_369.out
                      have hms62_2 := NB393_376.out
                      have hms62_3 := NB393_383.out
                      have hs63 : w58.cell? ⟨gb393, 4, none⟩ = some (.int .i64 0) := (blk_cell BK393.out 4).trans rfl
                      have hfs63 := blk_frozen BK393.out 4
                      have hns63_0 := NB361_393.out
                      have hns63_1 := NB369_393.out
                      have hns63_2 := NB376_393.out
                      have hns63_3 := NB383_393.out
                      have hms63_0 := NB393_361.out
                      have hms63_1 := NB393_369.out
                      have hms63_2 := NB393_376.out
                      have hms63_3 := NB393_383.out
                      have hs64 : w58.cell? ⟨gb393, 5, none⟩ = some (.int .i64 0) := (blk_cell BK393.out 5).trans rfl
                      have hfs64 := blk_frozen BK393.out 5
                      have hns64_0 := NB361_393.out
                      have hns64_1 := NB369_393.out
                      have hns64_2 := NB376_393.out
                      have hns64_3 := NB383_393.out
                      have hms64_0 := NB393_361.out
                      have hms64_1 := NB393_369.out
                      have hms64_2 := NB393_376.out
                      have hms64_3 := NB393_383.out
                      refine skip_ (w1 := ?_) (by rfl) rfl ?_ ?_
                      rotate_left
                      · go_simp
                        rfl
                      refine hK.out _ _ ⟨((cell_far (p := ⟨gb393, _, none⟩) NB376_393.out _).trans (((cell_far (p := ⟨gb393, _, none⟩) NB376_393.out _).trans (((cell_far (p := ⟨gb393, _, none⟩) NB376_393.out _).trans (((cell_far (p := ⟨gb393, _, none⟩) NB376_393.out _).trans (((cell_far (p := ⟨gb393, _, none⟩) NB376_393.out _).trans (((cell_far (p := ⟨gb393, _, none⟩) NB376_393.out _).trans (hHeld.1)))))))))))), ((cell_far (p := ⟨gb393, _, none⟩) NB376_393.out _).trans (((cell_far (p := ⟨gb393, _, none⟩) NB376_393.out _).trans (((cell_far (p := ⟨gb393, _, none⟩) NB376_393.out _).trans (((cell_far (p := ⟨gb393, _, none⟩) NB376_393.out _).trans (((cell_far (p := ⟨gb393, _, none⟩) NB376_393.out _).trans (((cell_far (p := ⟨gb393, _, none⟩) NB376_393.out _).trans (hHeld.2.1)))))))))))), ((cell_far (p := ⟨gb393, _, none⟩) NB376_393.out _).trans (((cell_far (p := ⟨gb393, _, none⟩) NB376_393.out _).trans (((cell_far (p := ⟨gb393, _, none⟩) NB376_393.out _).trans (((cell_far (p := ⟨gb393, _, none⟩) NB376_393.out _).trans (((cell_far (p := ⟨gb393, _, none⟩) NB376_393.out _).trans (((cell_far (p := ⟨gb393, _, none⟩) NB376_393.out _).trans (hHeld.2.2.1)))))))))))), ((cell_far (p := ⟨gb393, _, none⟩) NB361_393.out _).trans (((cell_far (p := ⟨gb393, _, none⟩) NB361_393.out _).trans (((cell_far (p := ⟨gb393, _, none⟩) NB361_393.out _).trans (((cell_far (p := ⟨gb393, _, none⟩) NB361_393.out _).trans (((cell_far (p := ⟨gb393, _, none⟩) NB361_393.out _).trans (((cell_far (p := ⟨gb393, _, none⟩) NB361_393.out _).trans (hHeld.2.2.2.1)))))))))))), ((cell_far (p := ⟨gb393, _, none⟩) NB361_393.out _).trans (((cell_far (p := ⟨gb393, _, none⟩) NB361_393.out _).trans (((cell_far (p := ⟨gb393, _, none⟩) NB361_393.out _).trans (((cell_far (p := ⟨gb393, _, none⟩) NB361_393.out _).trans (((cell_far (p := ⟨gb393, _, none⟩) NB361_393.out _).trans (((cell_far (p := ⟨gb393, _, none⟩) NB361_393.out _).trans (hHeld.2.2.2.2.1)))))))))))), ((cell_far (p := ⟨gb393, _, none⟩) NB361_393.out _).trans (((cell_far (p := ⟨gb393, _, none⟩) NB361_393.out _).trans (((cell_far (p := ⟨gb393, _, none⟩) NB361_393.out _).trans (((cell_far (p := ⟨gb393, _, none⟩) NB361_393.out _).trans (((cell_far (p := ⟨gb393, _, none⟩) NB361_393.out _).trans (((cell_far (p := ⟨gb393, _, none⟩) NB361_393.out _).trans (hHeld.2.2.2.2.2.1)))))))))))), ((cell_far (p := ⟨gb393, _, none⟩) (by first | exact Nat.ne_of_lt (Nat.lt_of_lt_of_le (by have := World.block_lt_of_cell? _ _ hw385_0; first | rwa [add_block] at this | exact this) GW393.out) | (rw [add_block]; exact Nat.ne_of_lt (Nat.lt_of_lt_of_le (by have := World.block_lt_of_cell? _ _ hw385_0; first | rwa [add_block] at this | exact this) GW393.out)) | (show (Addr.add _ _).block ≠ _; rw [add_block]; exact Nat.ne_of_lt (Nat.lt_of_lt_of_le (by have := World.block_lt_of_cell? _ _ hw385_0; first | rwa [add_block] at this | exact this) GW393.out)) | (dsimp only; exact Nat.ne_of_lt (Nat.lt_of_lt_of_le (by have := World.block_lt_of_cell? _ _ hw385_0; first | rwa [add_block] at this | exact this) GW393.out))) _).trans (((cell_far (p := ⟨gb393, _, none⟩) (by first | exact Nat.ne_of_lt (Nat.lt_of_lt_of_le (by have := World.block_lt_of_cell? _ _ hw385_0; first | rwa [add_block] at this | exact this) GW393.out) | (rw [add_block]; exact Nat.ne_of_lt (Nat.lt_of_lt_of_le (by have := World.block_lt_of_cell? _ _ hw385_0; first | rwa [add_block] at this | exact this) GW393.out)) | (show (Addr.add _ _).block ≠ _; rw [add_block]; exact Nat.ne_of_lt (Nat.lt_of_lt_of_le (by have := World.block_lt_of_cell? _ _ hw385_0; first | rwa [add_block] at this | exact this) GW393.out)) | (dsimp only; exact Nat.ne_of_lt (Nat.lt_of_lt_of_le (by have := World.block_lt_of_cell? _ _ hw385_0; first | rwa [add_block] at this | exact this) GW393.out))) _).trans (((cell_far (p := ⟨gb393, _, none⟩) (by first | exact Nat.ne_of_lt (Nat.lt_of_lt_of_le (by have := World.block_lt_of_cell? _ _ hw385_0; first | rwa [add_block] at this | exact this) GW393.out) | (rw [add_block]; exact Nat.ne_of_lt (Nat.lt_of_lt_of_le (by have := World.block_lt_of_cell? _ _ hw385_0; first | rwa [add_block] at this | exact this) GW393.out)) | (show (Addr.add _ _).block ≠ _; rw [add_block]; exact Nat.ne_of_lt (Nat.lt_of_lt_of_le (by have := World.block_lt_of_cell? _ _ hw385_0; first | rwa [add_block] at this | exact this) GW393.out)) | (dsimp only; exact Nat.ne_of_lt (Nat.lt_of_lt_of_le (by have := World.block_lt_of_cell? _ _ hw385_0; first | rwa [add_block] at this | exact this) GW393.out))) _).trans (((cell_far (p := ⟨gb393, _, none⟩) (by first | exact Nat.ne_of_lt (Nat.lt_of_lt_of_le (by have := World.block_lt_of_cell? _ _ hw385_0; first | rwa [add_block] at this | exact this) GW393.out) | (rw [add_block]; exact Nat.ne_of_lt (Nat.lt_of_lt_of_le (by have := World.block_lt_of_cell? _ _ hw385_0; first | rwa [add_block] at this | exact this) GW393.out)) | (show (Addr.add _ _).block ≠ _; rw [add_block]; exact Nat.ne_of_lt (Nat.lt_of_lt_of_le (by have := World.block_lt_of_cell? _ _ hw385_0; first | rwa [add_block] at this | exact this) GW393.out)) | (dsimp only; exact Nat.ne_of_lt (Nat.lt_of_lt_of_le (by have := World.block_lt_of_cell? _ _ hw385_0; first | rwa [add_block] at this | exact this) GW393.out))) _).trans (((cell_far (p := ⟨gb393, _, none⟩) (by first | exact Nat.ne_of_lt (Nat.lt_of_lt_of_le (by have := World.block_lt_of_cell? _ _ hw385_0; first | rwa [add_block] at this | exact this) GW393.out) | (rw [add_block]; exact Nat.ne_of_lt (Nat.lt_of_lt_of_le (by have := World.block_lt_of_cell? _ _ hw385_0; first | rwa [add_block] at this | exact this) GW393.out)) | (show (Addr.add _ _).block ≠ _; rw [add_block]; exact Nat.ne_of_lt (Nat.lt_of_lt_of_le (by have := World.block_lt_of_cell? _ _ hw385_0; first | rwa [add_block] at this | exact this) GW393.out)) | (dsimp only; exact Nat.ne_of_lt (Nat.lt_of_lt_of_le (by have := World.block_lt_of_cell? _ _ hw385_0; first | rwa [add_block] at this | exact this) GW393.out))) _).trans (((cell_far (p := ⟨gb393, _, none⟩) (by first | exact Nat.ne_of_lt (Nat.lt_of_lt_of_le (by have := World.block_lt_of_cell? _ _ hw385_0; first | rwa [add_block] at this | exact this) GW393.out) | (rw [add_block]; exact Nat.ne_of_lt (Nat.lt_of_lt_of_le (by have := World.block_lt_of_cell? _ _ hw385_0; first | rwa [add_block] at this | exact this) GW393.out)) | (show (Addr.add _ _).block ≠ _; rw [add_block]; exact Nat.ne_of_lt (Nat.lt_of_lt_of_le (by have := World.block_lt_of_cell? _ _ hw385_0; first | rwa [add_block] at this | exact this) GW393.out)) | (dsimp only; exact Nat.ne_of_lt (Nat.lt_of_lt_of_le (by have := World.block_lt_of_cell? _ _ hw385_0; first | rwa [add_block] at this | exact this) GW393.out))) _).trans (hHeld.2.2.2.2.2.2.1)))))))))))), ((cell_far (p := ⟨gb393, _, none⟩) (by first | exact Nat.ne_of_lt (Nat.lt_of_lt_of_le (by have := World.block_lt_of_cell? _ _ hw385_1; first | rwa [add_block] at this | exact this) GW393.out) | (rw [add_block]; exact Nat.ne_of_lt (Nat.lt_of_lt_of_le (by have := World.block_lt_of_cell? _ _ hw385_1; first | rwa [add_block] at this | exact this) GW393.out)) | (show (Addr.add _ _).block ≠ _; rw [add_block]; exact Nat.ne_of_lt (Nat.lt_of_lt_of_le (by have := World.block_lt_of_cell? _ _ hw385_1; first | rwa [add_block] at this | exact this) GW393.out)) | (dsimp only; exact Nat.ne_of_lt (Nat.lt_of_lt_of_le (by have := World.block_lt_of_cell? _ _ hw385_1; first | rwa [add_block] at this | exact this) GW393.out))) _).trans (((cell_far (p := ⟨gb393, _, none⟩) (by first | exact Nat.ne_of_lt (Nat.lt_of_lt_of_le (by have := World.block_lt_of_cell? _ _ hw385_1; first | rwa [add_block] at this | exact this) GW393.out) | (rw [add_block]; exact Nat.ne_of_lt (Nat.lt_of_lt_of_le (by have := World.block_lt_of_cell? _ _ hw385_1; first | rwa [add_block] at this | exact this) GW393.out)) | (show (Addr.add _ _).block ≠ _; rw [add_block]; exact Nat.ne_of_lt (Nat.lt_of_lt_of_le (by have := World.block_lt_of_cell? _ _ hw385_1; first | rwa [add_block] at this | exact this) GW393.out)) | (dsimp only; exact Nat.ne_of_lt (Nat.lt_of_lt_of_le (by have := World.block_lt_of_cell? _ _ hw385_1; first | rwa [add_block] at this | exact this) GW393.out))) _).trans (((cell_far (p := ⟨gb393, _, none⟩) (by first | exact Nat.ne_of_lt (Nat.lt_of_lt_of_le (by have := World.block_lt_of_cell? _ _ hw385_1; first | rwa [add_block] at this | exact this) GW393.out) | (rw [add_block]; exact Nat.ne_of_lt (Nat.lt_of_lt_of_le (by have := World.block_lt_of_cell? _ _ hw385_1; first | rwa [add_block] at this | exact this) GW393.out)) | (show (Addr.add _ _).block ≠ _; rw [add_block]; exact Nat.ne_of_lt (Nat.lt_of_lt_of_le (by have := World.block_lt_of_cell? _ _ hw385_1; first | rwa [add_block] at this | exact this) GW393.out)) | (dsimp only; exact Nat.ne_of_lt (Nat.lt_of_lt_of_le (by have := World.block_lt_of_cell? _ _ hw385_1; first | rwa [add_block] at this | exact this) GW393.out))) _).trans (((cell_far (p := ⟨gb393, _, none⟩) (by first | exact Nat.ne_of_lt (Nat.lt_of_lt_of_le (by have := World.block_lt_of_cell? _ _ hw385_1; first | rwa [add_block] at this | exact this) GW393.out) | (rw [add_block]; exact Nat.ne_of_lt (Nat.lt_of_lt_of_le (by have := World.block_lt_of_cell? _ _ hw385_1; first | rwa [add_block] at this | exact this) GW393.out)) | (show (Addr.add _ _).block ≠ _; rw [add_block]; exact Nat.ne_of_lt (Nat.lt_of_lt_of_le (by have := World.block_lt_of_cell? _ _ hw385_1; first | rwa [add_block] at this | exact this) GW393.out)) | (dsimp only; exact Nat.ne_of_lt (Nat.lt_of_lt_of_le (by have := World.block_lt_of_cell? _ _ hw385_1; first | rwa [add_block] at this | exact this) GW393.out))) _).trans (((cell_far (p := ⟨gb393, _, none⟩) (by first | exact Nat.ne_of_lt (Nat.lt_of_lt_of_le (by have := World.block_lt_of_cell? _ _ hw385_1; first | rwa [add_block] at this | exact this) GW393.out) | (rw [add_block]; exact Nat.ne_of_lt (Nat.lt_of_lt_of_le (by have := World.block_lt_of_cell? _ _ hw385_1; first | rwa [add_block] at this | exact this) GW393.out)) | (show (Addr.add _ _).block ≠ _; rw [add_block]; exact Nat.ne_of_lt (Nat.lt_of_lt_of_le (by have := World.block_lt_of_cell? _ _ hw385_1; first | rwa [add_block] at this | exact this) GW393.out)) | (dsimp only; exact Nat.ne_of_lt (Nat.lt_of_lt_of_le (by have := World.block_lt_of_cell? _ _ hw385_1; first | rwa [add_block] at this | exact this) GW393.out))) _).trans (((cell_far (p := ⟨gb393, _, none⟩) (by first | exact Nat.ne_of_lt (Nat.lt_of_lt_of_le (by have := World.block_lt_of_cell? _ _ hw385_1; first | rwa [add_block] at this | exact this) GW393.out) | (rw [add_block]; exact Nat.ne_of_lt (Nat.lt_of_lt_of_le (by have := World.block_lt_of_cell? _ _ hw385_1; first | rwa [add_block] at this | exact this) GW393.out)) | (show (Addr.add _ _).block ≠ _; rw [add_block]; exact Nat.ne_of_lt (Nat.lt_of_lt_of_le (by have := World.block_lt_of_cell? _ _ hw385_1; first | rwa [add_block] at this | exact this) GW393.out)) | (dsimp only; exact Nat.ne_of_lt (Nat.lt_of_lt_of_le (by have := World.block_lt_of_cell? _ _ hw385_1; first | rwa [add_block] at this | exact this) GW393.out))) _).trans (hHeld.2.2.2.2.2.2.2.1)))))))))))), ((cell_far (p := ⟨gb393, _, none⟩) (by first | exact Nat.ne_of_lt (Nat.lt_of_lt_of_le (by have := World.block_lt_of_cell? _ _ hw385_2; first | rwa [add_block] at this | exact this) GW393.out) | (rw [add_block]; exact Nat.ne_of_lt (Nat.lt_of_lt_of_le (by have := World.block_lt_of_cell? _ _ hw385_2; first | rwa [add_block] at this | exact this) GW393.out)) | (show (Addr.add _ _).block ≠ _; rw [add_block]; exact Nat.ne_of_lt (Nat.lt_of_lt_of_le (by have := World.block_lt_of_cell? _ _ hw385_2; first | rwa [add_block] at this | exact this) GW393.out)) | (dsimp only; exact Nat.ne_of_lt (Nat.lt_of_lt_of_le (by have := World.block_lt_of_cell? _ _ hw385_2; first | rwa [add_block] at this | exact this) GW393.out))) _).trans (((cell_far (p := ⟨gb393, _, none⟩) (by first | exact Nat.ne_of_lt (Nat.lt_of_lt_of_le (by have := World.block_lt_of_cell? _ _ hw385_2; first | rwa [add_block] at this | exact this) GW393.out) | (rw [add_block]; exact Nat.ne_of_lt (Nat.lt_of_lt_of_le (by have := World.block_lt_of_cell? _ _ hw385_2; first | rwa [add_block] at this | exact this) GW393.out)) | (show (Addr.add _ _).block ≠ _; rw [add_block]; exact Nat.ne_of_lt (Nat.lt_of_lt_of_le (by have := World.block_lt_of_cell? _ _ hw385_2; first | rwa [add_block] at this | exact this) GW393.out)) | (dsimp only; exact Nat.ne_of_lt (Nat.lt_of_lt_of_le (by have := World.block_lt_of_cell? _ _ hw385_2; first | rwa [add_block] at this | exact this) GW393.out))) _).trans (((cell_far (p := ⟨gb393, _, none⟩) (by first | exact Nat.ne_of_lt (Nat.lt_of_lt_of_le (by have := World.block_lt_of_cell? _ _ hw385_2; first | rwa [add_block] at this | exact this) GW393.out) | (rw [add_block]; exact Nat.ne_of_lt (Nat.lt_of_lt_of_le (by have := World.block_lt_of_cell? _ _ hw385_2; first | rwa [add_block] at this | exact this) GW393.out)) | (show (Addr.add _ _).block ≠ _; rw [add_block]; exact Nat.ne_of_lt (Nat.lt_of_lt_of_le (by have := World.block_lt_of_cell? _ _ hw385_2; first | rwa [add_block] at this | exact this) GW393.out)) | (dsimp only; exact Nat.ne_of_lt (Nat.lt_of_lt_of_le (by have := World.block_lt_of_cell? _ _ hw385_2; first | rwa [add_block] at this | exact this) GW393.out))) _).trans (((cell_far (p := ⟨gb393, _, none⟩) (by first | exact Nat.ne_of_lt (Nat.lt_of_lt_of_le (by have := World.block_lt_of_cell? _ _ hw385_2; first | rwa [add_block] at this | exact this) GW393.out) | (rw [add_block]; exact Nat.ne_of_lt (Nat.lt_of_lt_of_le (by have := World.block_lt_of_cell? _ _ hw385_2; first | rwa [add_block] at this | exact this) GW393.out)) | (show (Addr.add _ _).block ≠ _; rw [add_block]; exact Nat.ne_of_lt (Nat.lt_of_lt_of_le (by have := World.block_lt_of_cell? _ _ hw385_2; first | rwa [add_block] at this | exact this) GW393.out)) | (dsimp only; exact Nat.ne_of_lt (Nat.lt_of_lt_of_le (by have := World.block_lt_of_cell? _ _ hw385_2; first | rwa [add_block] at this | exact this) GW393.out))) _).trans (((cell_far (p := ⟨gb393, _, none⟩) (by first | exact Nat.ne_of_lt (Nat.lt_of_lt_of_le (by have := World.block_lt_of_cell? _ _ hw385_2; first | rwa [add_block] at this | exact this) GW393.out) | (rw [add_block]; exact Nat.ne_of_lt (Nat.lt_of_lt_of_le (by have := World.block_lt_of_cell? _ _ hw385_2; first | rwa [add_block] at this | exact this) GW393.out)) | (show (Addr.add _ _).block ≠ _; rw [add_block]; exact Nat.ne_of_lt (Nat.lt_of_lt_of_le (by have := World.block_lt_of_cell? _ _ hw385_2; first | rwa [add_block] at this | exact this) GW393.out)) | (dsimp only; exact Nat.ne_of_lt (Nat.lt_of_lt_of_le (by have := World.block_lt_of_cell? _ _ hw385_2; first | rwa [add_block] at this | exact this) GW393.out))) _).trans (((cell_far (p := ⟨gb393, _, none⟩) (by first | exact Nat.ne_of_lt (Nat.lt_of_lt_of_le (by have := World.block_lt_of_cell? _ _ hw385_2; first | rwa [add_block] at this | exact this) GW393.out) | (rw [add_block]; exact Nat.ne_of_lt (Nat.lt_of_lt_of_le (by have := World.block_lt_of_cell? _ _ hw385_2; first | rwa [add_block] at this | exact this) GW393.out)) | (show (Addr.add _ _).block ≠ _; rw [add_block]; exact Nat.ne_of_lt (Nat.lt_of_lt_of_le (by have := World.block_lt_of_cell? _ _ hw385_2; first | rwa [add_block] at this | exact this) GW393.out)) | (dsimp only; exact Nat.ne_of_lt (Nat.lt_of_lt_of_le (by have := World.block_lt_of_cell? _ _ hw385_2; first | rwa [add_block] at this | exact this) GW393.out))) _).trans (hHeld.2.2.2.2.2.2.2.2.1)))))))))))), ((cell_far (p := ⟨gb393, _, none⟩) (by first | exact Nat.ne_of_lt (Nat.lt_of_lt_of_le (by have := World.block_lt_of_cell? _ _ hw385_3; first | rwa [add_block] at this | exact this) GW393.out) | (rw [add_block]; exact Nat.ne_of_lt (Nat.lt_of_lt_of_le (by have := World.block_lt_of_cell? _ _ hw385_3; first | rwa [add_block] at this | exact this) GW393.out)) | (show (Addr.add _ _).block ≠ _; rw [add_block]; exact Nat.ne_of_lt (Nat.lt_of_lt_of_le (by have := World.block_lt_of_cell? _ _ hw385_3; first | rwa [add_block] at this | exact this) GW393.out)) | (dsimp only; exact Nat.ne_of_lt (Nat.lt_of_lt_of_le (by have := World.block_lt_of_cell? _ _ hw385_3; first | rwa [add_block] at this | exact this) GW393.out))) _).trans (((cell_far (p := ⟨gb393, _, none⟩) (by first | exact Nat.ne_of_lt (Nat.lt_of_lt_of_le (by have := World.block_lt_of_cell? _ _ hw385_3; first | rwa [add_block] at this | exact this) GW393.out) | (rw [add_block]; exact Nat.ne_of_lt (Nat.lt_of_lt_of_le (by have := World.block_lt_of_cell? _ _ hw385_3; first | rwa [add_block] at this | exact this) GW393.out)) | (show (Addr.add _ _).block ≠ _; rw [add_block]; exact Nat.ne_of_lt (Nat.lt_of_lt_of_le (by have := World.block_lt_of_cell? _ _ hw385_3; first | rwa [add_block] at this | exact this) GW393.out)) | (dsimp only; exact Nat.ne_of_lt (Nat.lt_of_lt_of_le (by have := World.block_lt_of_cell? _ _ hw385_3; first | rwa [add_block] at this | exact this) GW393.out))) _).trans (((cell_far (p := ⟨gb393, _, none⟩) (by first | exact Nat.ne_of_lt (Nat.lt_of_lt_of_le (by have := World.block_lt_of_cell? _ _ hw385_3; first | rwa [add_block] at this | exact this) GW393.out) | (rw [add_block]; exact Nat.ne_of_lt (Nat.lt_of_lt_of_le (by have := World.block_lt_of_cell? _ _ hw385_3; first | rwa [add_block] at this | exact this) GW393.out)) | (show (Addr.add _ _).block ≠ _; rw [add_block]; exact Nat.ne_of_lt (Nat.lt_of_lt_of_le (by have := World.block_lt_of_cell? _ _ hw385_3; first | rwa [add_block] at this | exact this) GW393.out)) | (dsimp only; exact Nat.ne_of_lt (Nat.lt_of_lt_of_le (by have := World.block_lt_of_cell? _ _ hw385_3; first | rwa [add_block] at this | exact this) GW393.out))) _).trans (((cell_far (p := ⟨gb393, _, none⟩) (by first | exact Nat.ne_of_lt (Nat.lt_of_lt_of_le (by have := World.block_lt_of_cell? _ _ hw385_3; first | rwa [add_block] at this | exact this) GW393.out) | (rw [add_block]; exact Nat.ne_of_lt (Nat.lt_of_lt_of_le (by have := World.block_lt_of_cell? _ _ hw385_3; first | rwa [add_block] at this | exact this) GW393.out)) | (show (Addr.add _ _).block ≠ _; rw [add_block]; exact Nat.ne_of_lt (Nat.lt_of_lt_of_le (by have := World.block_lt_of_cell? _ _ hw385_3; first | rwa [add_block] at this | exact this) GW393.out)) | (dsimp only; exact Nat.ne_of_lt (Nat.lt_of_lt_of_le (by have := World.block_lt_of_cell? _ _ hw385_3; first | rwa [add_block] at this | exact this) GW393.out))) _).trans (((cell_far (p := ⟨gb393, _, none⟩) (by first | exact Nat.ne_of_lt (Nat.lt_of_lt_of_le (by have := World.block_lt_of_cell? _ _ hw385_3; first | rwa [add_block] at this | exact this) GW393.out) | (rw [add_block]; exact Nat.ne_of_lt (Nat.lt_of_lt_of_le (by have := World.block_lt_of_cell? _ _ hw385_3; first | rwa [add_block] at this | exact this) GW393.out)) | (show (Addr.add _ _).block ≠ _; rw [add_block]; exact Nat.ne_of_lt (Nat.lt_of_lt_of_le (by have := World.block_lt_of_cell? _ _ hw385_3; first | rwa [add_block] at this | exact this) GW393.out)) | (dsimp only; exact Nat.ne_of_lt (Nat.lt_of_lt_of_le (by have := World.block_lt_of_cell? _ _ hw385_3; first | rwa [add_block] at this | exact this) GW393.out))) _).trans (((cell_far (p := ⟨gb393, _, none⟩) (by first | exact Nat.ne_of_lt (Nat.lt_of_lt_of_le (by have := World.block_lt_of_cell? _ _ hw385_3; first | rwa [add_block] at this | exact this) GW393.out) | (rw [add_block]; exact Nat.ne_of_lt (Nat.lt_of_lt_of_le (by have := World.block_lt_of_cell? _ _ hw385_3; first | rwa [add_block] at this | exact this) GW393.out)) | (show (Addr.add _ _).block ≠ _; rw [add_block]; exact Nat.ne_of_lt (Nat.lt_of_lt_of_le (by have := World.block_lt_of_cell? _ _ hw385_3; first | rwa [add_block] at this | exact this) GW393.out)) | (dsimp only; exact Nat.ne_of_lt (Nat.lt_of_lt_of_le (by have := World.block_lt_of_cell? _ _ hw385_3; first | rwa [add_block] at this | exact this) GW393.out))) _).trans (hHeld.2.2.2.2.2.2.2.2.2.1)))))))))))), ((cell_far (p := ⟨gb393, _, none⟩) (by first | exact Nat.ne_of_lt (Nat.lt_of_lt_of_le (by have := World.block_lt_of_cell? _ _ hw385_4; first | rwa [add_block] at this | exact this) GW393.out) | (rw [add_block]; exact Nat.ne_of_lt (Nat.lt_of_lt_of_le (by have := World.block_lt_of_cell? _ _ hw385_4; first | rwa [add_block] at this | exact this) GW393.out)) | (show (Addr.add _ _).block ≠ _; rw [add_block]; exact Nat.ne_of_lt (Nat.lt_of_lt_of_le (by have := World.block_lt_of_cell? _ _ hw385_4; first | rwa [add_block] at this | exact this) GW393.out)) | (dsimp only; exact Nat.ne_of_lt (Nat.lt_of_lt_of_le (by have := World.block_lt_of_cell? _ _ hw385_4; first | rwa [add_block] at this | exact this) GW393.out))) _).trans (((cell_far (p := ⟨gb393, _, none⟩) (by first | exact Nat.ne_of_lt (Nat.lt_of_lt_of_le (by have := World.block_lt_of_cell? _ _ hw385_4; first | rwa [add_block] at this | exact this) GW393.out) | (rw [add_block]; exact Nat.ne_of_lt (Nat.lt_of_lt_of_le (by have := World.block_lt_of_cell? _ _ hw385_4; first | rwa [add_block] at this | exact this) GW393.out)) | (show (Addr.add _ _).block ≠ _; rw [add_block]; exact Nat.ne_of_lt (Nat.lt_of_lt_of_le (by have := World.block_lt_of_cell? _ _ hw385_4; first | rwa [add_block] at this | exact this) GW393.out)) | (dsimp only; exact Nat.ne_of_lt (Nat.lt_of_lt_of_le (by have := World.block_lt_of_cell? _ _ hw385_4; first | rwa [add_block] at this | exact this) GW393.out))) _).trans (((cell_far (p := ⟨gb393, _, none⟩) (by first | exact Nat.ne_of_lt (Nat.lt_of_lt_of_le (by have := World.block_lt_of_cell? _ _ hw385_4; first | rwa [add_block] at this | exact this) GW393.out) | (rw [add_block]; exact Nat.ne_of_lt (Nat.lt_of_lt_of_le (by have := World.block_lt_of_cell? _ _ hw385_4; first | rwa [add_block] at this | exact this) GW393.out)) | (show (Addr.add _ _).block ≠ _; rw [add_block]; exact Nat.ne_of_lt (Nat.lt_of_lt_of_le (by have := World.block_lt_of_cell? _ _ hw385_4; first | rwa [add_block] at this | exact this) GW393.out)) | (dsimp only; exact Nat.ne_of_lt (Nat.lt_of_lt_of_le (by have := World.block_lt_of_cell? _ _ hw385_4; first | rwa [add_block] at this | exact this) GW393.out))) _).trans (((cell_far (p := ⟨gb393, _, none⟩) (by first | exact Nat.ne_of_lt (Nat.lt_of_lt_of_le (by have := World.block_lt_of_cell? _ _ hw385_4; first | rwa [add_block] at this | exact this) GW393.out) | (rw [add_block]; exact Nat.ne_of_lt (Nat.lt_of_lt_of_le (by have := World.block_lt_of_cell? _ _ hw385_4; first | rwa [add_block] at this | exact this) GW393.out)) | (show (Addr.add _ _).block ≠ _; rw [add_block]; exact Nat.ne_of_lt (Nat.lt_of_lt_of_le (by have := World.block_lt_of_cell? _ _ hw385_4; first | rwa [add_block] at this | exact this) GW393.out)) | (dsimp only; exact Nat.ne_of_lt (Nat.lt_of_lt_of_le (by have := World.block_lt_of_cell? _ _ hw385_4; first | rwa [add_block] at this | exact this) GW393.out))) _).trans (((cell_far (p := ⟨gb393, _, none⟩) (by first | exact Nat.ne_of_lt (Nat.lt_of_lt_of_le (by have := World.block_lt_of_cell? _ _ hw385_4; first | rwa [add_block] at this | exact this) GW393.out) | (rw [add_block]; exact Nat.ne_of_lt (Nat.lt_of_lt_of_le (by have := World.block_lt_of_cell? _ _ hw385_4; first | rwa [add_block] at this | exact this) GW393.out)) | (show (Addr.add _ _).block ≠ _; rw [add_block]; exact Nat.ne_of_lt (Nat.lt_of_lt_of_le (by have := World.block_lt_of_cell? _ _ hw385_4; first | rwa [add_block] at this | exact this) GW393.out)) | (dsimp only; exact Nat.ne_of_lt (Nat.lt_of_lt_of_le (by have := World.block_lt_of_cell? _ _ hw385_4; first | rwa [add_block] at this | exact this) GW393.out))) _).trans (((cell_far (p := ⟨gb393, _, none⟩) (by first | exact Nat.ne_of_lt (Nat.lt_of_lt_of_le (by have := World.block_lt_of_cell? _ _ hw385_4; first | rwa [add_block] at this | exact this) GW393.out) | (rw [add_block]; exact Nat.ne_of_lt (Nat.lt_of_lt_of_le (by have := World.block_lt_of_cell? _ _ hw385_4; first | rwa [add_block] at this | exact this) GW393.out)) | (show (Addr.add _ _).block ≠ _; rw [add_block]; exact Nat.ne_of_lt (Nat.lt_of_lt_of_le (by have := World.block_lt_of_cell? _ _ hw385_4; first | rwa [add_block] at this | exact this) GW393.out)) | (dsimp only; exact Nat.ne_of_lt (Nat.lt_of_lt_of_le (by have := World.block_lt_of_cell? _ _ hw385_4; first | rwa [add_block] at this | exact this) GW393.out))) _).trans (hHeld.2.2.2.2.2.2.2.2.2.2.1)))))))))))), ((cell_far (p := ⟨gb393, _, none⟩) (by first | exact Nat.ne_of_lt (Nat.lt_of_lt_of_le (by have := World.block_lt_of_cell? _ _ hw385_5; first | rwa [add_block] at this | exact this) GW393.out) | (rw [add_block]; exact Nat.ne_of_lt (Nat.lt_of_lt_of_le (by have := World.block_lt_of_cell? _ _ hw385_5; first | rwa [add_block] at this | exact this) GW393.out)) | (show (Addr.add _ _).block ≠ _; rw [add_block]; exact Nat.ne_of_lt (Nat.lt_of_lt_of_le (by have := World.block_lt_of_cell? _ _ hw385_5; first | rwa [add_block] at this | exact this) GW393.out)) | (dsimp only; exact Nat.ne_of_lt (Nat.lt_of_lt_of_le (by have := World.block_lt_of_cell? _ _ hw385_5; first | rwa [add_block] at this | exact this) GW393.out))) _).trans (((cell_far (p := ⟨gb393, _, none⟩) (by first | exact Nat.ne_of_lt (Nat.lt_of_lt_of_le (by have := World.block_lt_of_cell? _ _ hw385_5; first | rwa [add_block] at this | exact this) GW393.out) | (rw [add_block]; exact Nat.ne_of_lt (Nat.lt_of_lt_of_le (by have := World.block_lt_of_cell? _ _ hw385_5; first | rwa [add_block] at this | exact this) GW393.out)) | (show (Addr.add _ _).block ≠ _; rw [add_block]; exact Nat.ne_of_lt (Nat.lt_of_lt_of_le (by have := World.block_lt_of_cell? _ _ hw385_5; first | rwa [add_block] at this | exact this) GW393.out)) | (dsimp only; exact Nat.ne_of_lt (Nat.lt_of_lt_of_le (by have := World.block_lt_of_cell? _ _ hw385_5; first | rwa [add_block] at this | exact this) GW393.out))) _).trans (((cell_far (p := ⟨gb393, _, none⟩) (by first | exact Nat.ne_of_lt (Nat.lt_of_lt_of_le (by have := World.block_lt_of_cell? _ _ hw385_5; first | rwa [add_block] at this | exact this) GW393.out) | (rw [add_block]; exact Nat.ne_of_lt (Nat.lt_of_lt_of_le (by have := World.block_lt_of_cell? _ _ hw385_5; first | rwa [add_block] at this | exact this) GW393.out)) | (show (Addr.add _ _).block ≠ _; rw [add_block]; exact Nat.ne_of_lt (Nat.lt_of_lt_of_le (by have := World.block_lt_of_cell? _ _ hw385_5; first | rwa [add_block] at this | exact this) GW393.out)) | (dsimp only; exact Nat.ne_of_lt (Nat.lt_of_lt_of_le (by have := World.block_lt_of_cell? _ _ hw385_5; first | rwa [add_block] at this | exact this) GW393.out))) _).trans (((cell_far (p := ⟨gb393, _, none⟩) (by first | exact Nat.ne_of_lt (Nat.lt_of_lt_of_le (by have := World.block_lt_of_cell? _ _ hw385_5; first | rwa [add_block] at this | exact this) GW393.out) | (rw [add_block]; exact Nat.ne_of_lt (Nat.lt_of_lt_of_le (by have := World.block_lt_of_cell? _ _ hw385_5; first | rwa [add_block] at this | exact this) GW393.out)) | (show (Addr.add _ _).block ≠ _; rw [add_block]; exact Nat.ne_of_lt (Nat.lt_of_lt_of_le (by have := World.block_lt_of_cell? _ _ hw385_5; first | rwa [add_block] at this | exact this) GW393.out)) | (dsimp only; exact Nat.ne_of_lt (Nat.lt_of_lt_of_le (by have := World.block_lt_of_cell? _ _ hw385_5; first | rwa [add_block] at this | exact this) GW393.out))) _).trans (((cell_far (p := ⟨gb393, _, none⟩) (by first | exact Nat.ne_of_lt (Nat.lt_of_lt_of_le (by have := World.block_lt_of_cell? _ _ hw385_5; first | rwa [add_block] at this | exact this) GW393.out) | (rw [add_block]; exact Nat.ne_of_lt (Nat.lt_of_lt_of_le (by have := World.block_lt_of_cell? _ _ hw385_5; first | rwa [add_block] at this | exact this) GW393.out)) | (show (Addr.add _ _).block ≠ _; rw [add_block]; exact Nat.ne_of_lt (Nat.lt_of_lt_of_le (by have := World.block_lt_of_cell? _ _ hw385_5; first | rwa [add_block] at this | exact this) GW393.out)) | (dsimp only; exact Nat.ne_of_lt (Nat.lt_of_lt_of_le (by have := World.block_lt_of_cell? _ _ hw385_5; first | rwa [add_block] at this | exact this) GW393.out))) _).trans (((cell_far (p := ⟨gb393, _, none⟩) (by first | exact Nat.ne_of_lt (Nat.lt_of_lt_of_le (by have := World.block_lt_of_cell? _ _ hw385_5; first | rwa [add_block] at this | exact this) GW393.out) | (rw [add_block]; exact Nat.ne_of_lt (Nat.lt_of_lt_of_le (by have := World.block_lt_of_cell? _ _ hw385_5; first | rwa [add_block] at this | exact this) GW393.out)) | (show (Addr.add _ _).block ≠ _; rw [add_block]; exact Nat.ne_of_lt (Nat.lt_of_lt_of_le (by have := World.block_lt_of_cell? _ _ hw385_5; first | rwa [add_block] at this | exact this) GW393.out)) | (dsimp only; exact Nat.ne_of_lt (Nat.lt_of_lt_of_le (by have := World.block_lt_of_cell? _ _ hw385_5; first | rwa [add_block] at this | exact this) GW393.out))) _).trans (hHeld.2.2.2.2.2.2.2.2.2.2.2))))))))))))⟩ (fun hHeld => ?_)
                      clear hK K
                      refine pure_ (i := 13) (N := some 15) (v := ?_) (a' := ?_) #[true, true, true, true, true, true, true, true, true, true, true, true, true, true] rfl rfl (any_of HT_.out (by kernel_rfl)) (fun _ _ _ h => h) (Or.inl ⟨by rfl, ?_⟩) ?_ ?_
                      rotate_left
                      · intro w'
                        go_simp
                        with_reducible rfl
                      rotate_left; (simp only [Act.put, List.setIfInBounds_toArray, List.set_cons_zero, List.set_cons_succ, i64_w, i32_w]; rfl)
                      refine done_ (done_of HT_.out (by kernel_rfl)) ?_
                      try go_wp2
                      have n0_ : Aside0 (Kd.R k28 28 ((((((w58.setCell ⟨gb393, 0, none⟩ (.int .i64 t386)).setCell ⟨gb393, 1, none⟩ (.int .i64 t387)).setCell ⟨gb393, 2, none⟩ (.int .i64 t388)).setCell ⟨gb393, 3, none⟩ (.int .i64 t389)).setCell ⟨gb393, 4, none⟩ (.int .i64 t390)).setCell ⟨gb393, 5, none⟩ (.int .i64 t391)) w.heap.size (fun k_ => some k_ ≠ (.slice Ao27 t372.length co27 : Value).ownBlock ∧ some k_ ≠ (.slice Ao35 t379.length co35 : Value).ownBlock ∧ k_ ≠ gb393) (.slice Ao21 t365.length co21) t365) := ⟨by (with_reducible repeat (first | apply Kd.R_alloc | apply Kd.R_drewN | apply Kd.R_drew)); exact Kd.R_mono (Kd.R_far (p := ⟨gb393, 5, none⟩) (Kd.R_far (p := ⟨gb393, 4, none⟩) (Kd.R_far (p := ⟨gb393, 3, none⟩) (Kd.R_far (p := ⟨gb393, 2, none⟩) (Kd.R_far (p := ⟨gb393, 1, none⟩) (Kd.R_far (p := ⟨gb393, 0, none⟩) (Kd.R_mono HO_370002.out (fun k_ hk => (⟨hk, hk.2.2⟩ : _ ∧ k_ ≠ gb393))) (fun _ hk => hk.2) (.int .i64 t386)) (fun _ hk => hk.2) (.int .i64 t387)) (fun _ hk => hk.2) (.int .i64 t388)) (fun _ hk => hk.2) (.int .i64 t389)) (fun _ hk => hk.2) (.int .i64 t390)) (fun _ hk => hk.2) (.int .i64 t391)) (fun _ hk => ⟨hk.1.1, ⟨hk.1.2.1, hk.1.2.2⟩⟩)⟩
                      have n1_ : Aside0 (Kd.R k28 28 ((((((w58.setCell ⟨gb393, 0, none⟩ (.int .i64 t386)).setCell ⟨gb393, 1, none⟩ (.int .i64 t387)).setCell ⟨gb393, 2, none⟩ (.int .i64 t388)).setCell ⟨gb393, 3, none⟩ (.int .i64 t389)).setCell ⟨gb393, 4, none⟩ (.int .i64 t390)).setCell ⟨gb393, 5, none⟩ (.int .i64 t391)) w.heap.size (fun k_ => some k_ ≠ (.slice Ao21 t365.length co21 : Value).ownBlock ∧ some k_ ≠ (.slice Ao35 t379.length co35 : Value).ownBlock ∧ k_ ≠ gb393) (.slice Ao27 t372.length co27) t372) := ⟨by (with_reducible repeat (first | apply Kd.R_alloc | apply Kd.R_drewN | apply Kd.R_drew)); exact Kd.R_mono (Kd.R_far (p := ⟨gb393, 5, none⟩) (Kd.R_far (p := ⟨gb393, 4, none⟩) (Kd.R_far (p := ⟨gb393, 3, none⟩) (Kd.R_far (p := ⟨gb393, 2, none⟩) (Kd.R_far (p := ⟨gb393, 1, none⟩) (Kd.R_far (p := ⟨gb393, 0, none⟩) (Kd.R_mono HO_377002.out (fun k_ hk => (⟨hk, hk.2.2⟩ : _ ∧ k_ ≠ gb393))) (fun _ hk => hk.2) (.int .i64 t386)) (fun _ hk => hk.2) (.int .i64 t387)) (fun _ hk => hk.2) (.int .i64 t388)) (fun _ hk => hk.2) (.int .i64 t389)) (fun _ hk => hk.2) (.int .i64 t390)) (fun _ hk => hk.2) (.int .i64 t391)) (fun _ hk => ⟨hk.1.1, ⟨hk.1.2.1, hk.1.2.2⟩⟩)⟩
                      have n2_ : Aside0 (Kd.R k28 28 ((((((w58.setCell ⟨gb393, 0, none⟩ (.int .i64 t386)).setCell ⟨gb393, 1, none⟩ (.int .i64 t387)).setCell ⟨gb393, 2, none⟩ (.int .i64 t388)).setCell ⟨gb393, 3, none⟩ (.int .i64 t389)).setCell ⟨gb393, 4, none⟩ (.int .i64 t390)).setCell ⟨gb393, 5, none⟩ (.int .i64 t391)) w.heap.size (fun k_ => some k_ ≠ (.slice Ao21 t365.length co21 : Value).ownBlock ∧ some k_ ≠ (.slice Ao27 t372.length co27 : Value).ownBlock ∧ k_ ≠ gb393) (.slice Ao35 t379.length co35) t379) := ⟨by (with_reducible repeat (first | apply Kd.R_alloc | apply Kd.R_drewN | apply Kd.R_drew)); exact Kd.R_mono (Kd.R_far (p := ⟨gb393, 5, none⟩) (Kd.R_far (p := ⟨gb393, 4, none⟩) (Kd.R_far (p := ⟨gb393, 3, none⟩) (Kd.R_far (p := ⟨gb393, 2, none⟩) (Kd.R_far (p := ⟨gb393, 1, none⟩) (Kd.R_far (p := ⟨gb393, 0, none⟩) (Kd.R_mono HO_384002.out (fun k_ hk => (⟨hk, hk.2.2⟩ : _ ∧ k_ ≠ gb393))) (fun _ hk => hk.2) (.int .i64 t386)) (fun _ hk => hk.2) (.int .i64 t387)) (fun _ hk => hk.2) (.int .i64 t388)) (fun _ hk => hk.2) (.int .i64 t389)) (fun _ hk => hk.2) (.int .i64 t390)) (fun _ hk => hk.2) (.int .i64 t391)) (fun _ hk => ⟨hk.1.1, ⟨hk.1.2.1, hk.1.2.2⟩⟩)⟩
                      have n3_ : Aside0 (((((((w58.setCell ⟨gb393, 0, none⟩ (.int .i64 t386)).setCell ⟨gb393, 1, none⟩ (.int .i64 t387)).setCell ⟨gb393, 2, none⟩ (.int .i64 t388)).setCell ⟨gb393, 3, none⟩ (.int .i64 t389)).setCell ⟨gb393, 4, none⟩ (.int .i64 t390)).setCell ⟨gb393, 5, none⟩ (.int .i64 t391)).heap[gb361]? = some (.cells #[.int .i64 a0_0, .int .i64 a0_1, .slice (some ad385) l0_2.length c0_2] 24 (0, 0))) := ⟨by refine blk_far ?_ NB361_393.out _; refine blk_far ?_ NB361_393.out _; refine blk_far ?_ NB361_393.out _; refine blk_far ?_ NB361_393.out _; refine blk_far ?_ NB361_393.out _; refine blk_far ?_ NB361_393.out _; exact BK361.out⟩
                      have n4_ : Aside0 (((((((w58.setCell ⟨gb393, 0, none⟩ (.int .i64 t386)).setCell ⟨gb393, 1, none⟩ (.int .i64 t387)).setCell ⟨gb393, 2, none⟩ (.int .i64 t388)).setCell ⟨gb393, 3, none⟩ (.int .i64 t389)).setCell ⟨gb393, 4, none⟩ (.int .i64 t390)).setCell ⟨gb393, 5, none⟩ (.int .i64 t391)).heap[gb369]? = some (.cells #[.int .i64 t363, .int .i64 t364, .slice Ao21 t365.length co21] 24 (0, 0))) := ⟨by refine blk_far ?_ NB369_393.out _; refine blk_far ?_ NB369_393.out _; refine blk_far ?_ NB369_393.out _; refine blk_far ?_ NB369_393.out _; refine blk_far ?_ NB369_393.out _; refine blk_far ?_ NB369_393.out _; exact BK369.out⟩
                      have n5_ : Aside0 (((((((w58.setCell ⟨gb393, 0, none⟩ (.int .i64 t386)).setCell ⟨gb393, 1, none⟩ (.int .i64 t387)).setCell ⟨gb393, 2, none⟩ (.int .i64 t388)).setCell ⟨gb393, 3, none⟩ (.int .i64 t389)).setCell ⟨gb393, 4, none⟩ (.int .i64 t390)).setCell ⟨gb393, 5, none⟩ (.int .i64 t391)).heap[gb376]? = some (.cells #[.int .i64 t370, .int .i64 t371, .slice Ao27 t372.length co27] 24 (0, 0))) := ⟨by refine blk_far ?_ NB376_393.out _; refine blk_far ?_ NB376_393.out _; refine blk_far ?_ NB376_393.out _; refine blk_far ?_ NB376_393.out _; refine blk_far ?_ NB376_393.out _; refine blk_far ?_ NB376_393.out _; exact BK376.out⟩
                      have n6_ : Aside0 (((((((w58.setCell ⟨gb393, 0, none⟩ (.int .i64 t386)).setCell ⟨gb393, 1, none⟩ (.int .i64 t387)).setCell ⟨gb393, 2, none⟩ (.int .i64 t388)).setCell ⟨gb393, 3, none⟩ (.int .i64 t389)).setCell ⟨gb393, 4, none⟩ (.int .i64 t390)).setCell ⟨gb393, 5, none⟩ (.int .i64 t391)).heap[gb383]? = some (.cells #[.int .i64 t377, .int .i64 t378, .slice Ao35 t379.length co35] 24 (0, 0))) := ⟨by refine blk_far ?_ NB383_393.out _; refine blk_far ?_ NB383_393.out _; refine blk_far ?_ NB383_393.out _; refine blk_far ?_ NB383_393.out _; refine blk_far ?_ NB383_393.out _; refine blk_far ?_ NB383_393.out _; exact BK383.out⟩
                      have n7_ : Aside0 (((((((w58.setCell ⟨gb393, 0, none⟩ (.int .i64 t386)).setCell ⟨gb393, 1, none⟩ (.int .i64 t387)).setCell ⟨gb393, 2, none⟩ (.int .i64 t388)).setCell ⟨gb393, 3, none⟩ (.int .i64 t389)).setCell ⟨gb393, 4, none⟩ (.int .i64 t390)).setCell ⟨gb393, 5, none⟩ (.int .i64 t391)).heap[gb393]? = some (.cells #[.int .i64 t386, .int .i64 t387, .int .i64 t388, .int .i64 t389, .int .i64 t390, .int .i64 t391] 28 (0, 0))) := ⟨by refine blk_put (cs := #[.int .i64 t386, .int .i64 t387, .int .i64 t388, .int .i64 t389, .int .i64 t390, .int .i64 0]) ?_ 5 _ rfl; refine blk_put (cs := #[.int .i64 t386, .int .i64 t387, .int .i64 t388, .int .i64 t389, .int .i64 0, .int .i64 0]) ?_ 4 _ rfl; refine blk_put (cs := #[.int .i64 t386, .int .i64 t387, .int .i64 t388, .int .i64 0, .int .i64 0, .int .i64 0]) ?_ 3 _ rfl; refine blk_put (cs := #[.int .i64 t386, .int .i64 t387, .int .i64 0, .int .i64 0, .int .i64 0, .int .i64 0]) ?_ 2 _ rfl; refine blk_put (cs := #[.int .i64 t386, .int .i64 0, .int .i64 0, .int .i64 0, .int .i64 0, .int .i64 0]) ?_ 1 _ rfl; refine blk_put (cs := #[.int .i64 0, .int .i64 0, .int .i64 0, .int .i64 0, .int .i64 0, .int .i64 0]) ?_ 0 _ rfl; exact BK393.out⟩
                      have n8_ : Aside0 (Below w.heap.size w ((((((w58.setCell ⟨gb393, 0, none⟩ (.int .i64 t386)).setCell ⟨gb393, 1, none⟩ (.int .i64 t387)).setCell ⟨gb393, 2, none⟩ (.int .i64 t388)).setCell ⟨gb393, 3, none⟩ (.int .i64 t389)).setCell ⟨gb393, 4, none⟩ (.int .i64 t390)).setCell ⟨gb393, 5, none⟩ (.int .i64 t391))) := ⟨by repeat (with_reducible first | exact HB.out | apply pw_below_drewN | apply below_drew1 | refine below_set ?_ GE361.out | refine below_set ?_ GE369.out | refine below_set ?_ GE376.out | refine below_set ?_ GE383.out | refine below_set ?_ GE393.out)⟩
                      (try clear HO_370002)
                      (try clear HO_377002)
                      (try clear HO_384002)
                      (try clear BK361)
                      (try clear BK369)
                      (try clear BK376)
                      (try clear BK383)
                      (try clear BK393)
                      (try clear HB)
                      generalize ((((((w58.setCell ⟨gb393, 0, none⟩ (.int .i64 t386)).setCell ⟨gb393, 1, none⟩ (.int .i64 t387)).setCell ⟨gb393, 2, none⟩ (.int .i64 t388)).setCell ⟨gb393, 3, none⟩ (.int .i64 t389)).setCell ⟨gb393, 4, none⟩ (.int .i64 t390)).setCell ⟨gb393, 5, none⟩ (.int .i64 t391)) = w65 at n0_ n1_ n2_ n3_ n4_ n5_ n6_ n7_ n8_ ⊢
                      have HO_370002 := n0_
                      have HO_377002 := n1_
                      have HO_384002 := n2_
                      have BK361 := n3_
                      have BK369 := n4_
                      have BK376 := n5_
                      have BK383 := n6_
                      have BK393 := n7_
                      have HB := n8_
                      clear n0_ n1_ n2_ n3_ n4_ n5_ n6_ n7_ n8_
                      have n0_ := Aside0.mk (Kd.R_drew HO_370002.out)
                      have n1_ := Aside0.mk (Kd.R_drew HO_377002.out)
                      have n2_ := Aside0.mk (Kd.R_drew HO_384002.out)
                      have n3_ := Aside0.mk (blk_drew BK361.out)
                      have n4_ := Aside0.mk (blk_drew BK369.out)
                      have n5_ := Aside0.mk (blk_drew BK376.out)
                      have n6_ := Aside0.mk (blk_drew BK383.out)
                      have n7_ := Aside0.mk (blk_drew BK393.out)
                      have n8_ := Aside0.mk (below_drew1 HB.out)
                      clear HO_370002
                      clear HO_377002
                      clear HO_384002
                      clear BK361
                      clear BK369
                      clear BK376
                      clear BK383
                      clear BK393
                      clear HB
                      have HO_370002 := n0_
                      have HO_377002 := n1_
                      have HO_384002 := n2_
                      have BK361 := n3_
                      have BK369 := n4_
                      have BK376 := n5_
                      have BK383 := n6_
                      have BK393 := n7_
                      have HB := n8_
                      clear n0_ n1_ n2_ n3_ n4_ n5_ n6_ n7_ n8_
                      have p394 : 0 ≤ (x13_2 : Int) := of_decide_eq_true (by first | (with_reducible assumption) | assumption)
                      have q394 : x13_2 < (l0_2.length : Int) := of_decide_eq_true (by first | (with_reducible assumption) | assumption)
                      obtain ⟨ad394, e394, hx394_0, hx394_1, hx394_2, hx394_3, hx394_4, hx394_5⟩ := at_T28 HR0_2.out x13_2 p394 q394
                      have hw394_5 := hx394_5
                      have hw394_4 := hx394_4
                      have hw394_3 := hx394_3
                      have hw394_2 := hx394_2
                      have hw394_1 := hx394_1
                      have hw394_0 := hx394_0
                      obtain rfl : ad385 = ad394 := (by injection e394)
                      replace hx394_0 := (HB.out.cell (World.block_lt_of_cell? w _ hx394_0)).trans hx394_0
                      replace hx394_1 := (HB.out.cell (World.block_lt_of_cell? w _ hx394_1)).trans hx394_1
                      replace hx394_2 := (HB.out.cell (World.block_lt_of_cell? w _ hx394_2)).trans hx394_2
                      replace hx394_3 := (HB.out.cell (World.block_lt_of_cell? w _ hx394_3)).trans hx394_3
                      replace hx394_4 := (HB.out.cell (World.block_lt_of_cell? w _ hx394_4)).trans hx394_4
                      replace hx394_5 := (HB.out.cell (World.block_lt_of_cell? w _ hx394_5)).trans hx394_5
                      replace p394 := eq_true p394
                      replace q394 := eq_true q394
                      refine start_ (n := 13) (S := fun w' => w'.cell? ⟨gb393, 0, none⟩ = some (.int .i64 t386) ∧ w'.cell? ⟨gb393, 1, none⟩ = some (.int .i64 t387) ∧ w'.cell? ⟨gb393, 2, none⟩ = some (.int .i64 t388) ∧ w'.cell? ⟨gb393, 3, none⟩ = some (.int .i64 t389) ∧ w'.cell? ⟨gb393, 4, none⟩ = some (.int .i64 t390) ∧ w'.cell? ⟨gb393, 5, none⟩ = some (.int .i64 t391) ∧ w'.cell? ⟨gb361, 0, none⟩ = some (.int .i64 a0_0) ∧ w'.cell? ⟨gb361, 1, none⟩ = some (.int .i64 a0_1) ∧ w'.cell? ⟨gb361, 2, none⟩ = some (.slice (some ad385) l0_2.length c0_2) ∧ w'.cell? (ad385.add ((x13_2).toNat * 6)) = some (.int .i64 ((rd_T28 l0_2 x13_2).f0.f0)) ∧ w'.cell? ⟨(ad385.add ((x13_2).toNat * 6)).block, (ad385.add ((x13_2).toNat * 6)).off + 1, none⟩ = some (.int .i64 ((rd_T28 l0_2 x13_2).f0.f1)) ∧ w'.cell? ⟨(ad385.add ((x13_2).toNat * 6)).block, (ad385.add ((x13_2).toNat * 6)).off + 2, none⟩ = some (.int .i64 ((rd_T28 l0_2 x13_2).f1)) ∧ w'.cell? ⟨(ad385.add ((x13_2).toNat * 6)).block, (ad385.add ((x13_2).toNat * 6)).off + 3, none⟩ = some (.int .i64 ((rd_T28 l0_2 x13_2).f2)) ∧ w'.cell? ⟨(ad385.add ((x13_2).toNat * 6)).block, (ad385.add ((x13_2).toNat * 6)).off + 4, none⟩ = some (.int .i64 ((rd_T28 l0_2 x13_2).f3)) ∧ w'.cell? ⟨(ad385.add ((x13_2).toNat * 6)).block, (ad385.add ((x13_2).toNat * 6)).off + 5, none⟩ = some (.int .i64 ((rd_T28 l0_2 x13_2).f4))) (ds := []) #[false, false, false, false, false, false, false, false, false, false, false, false, false] (by kernel_rfl) rfl rfl ⟨(blk_cell BK393.out 0).trans rfl, (blk_cell BK393.out 1).trans rfl, (blk_cell BK393.out 2).trans rfl, (blk_cell BK393.out 3).trans rfl, (blk_cell BK393.out 4).trans rfl, (blk_cell BK393.out 5).trans rfl, (blk_cell BK361.out 0).trans rfl, (blk_cell BK361.out 1).trans rfl, (blk_cell BK361.out 2).trans rfl, ((HB.out.cell (World.block_lt_of_cell? w _ hw394_0)).trans hw394_0), ((HB.out.cell (World.block_lt_of_cell? w _ hw394_1)).trans hw394_1), ((HB.out.cell (World.block_lt_of_cell? w _ hw394_2)).trans hw394_2), ((HB.out.cell (World.block_lt_of_cell? w _ hw394_3)).trans hw394_3), ((HB.out.cell (World.block_lt_of_cell? w _ hw394_4)).trans hw394_4), ((HB.out.cell (World.block_lt_of_cell? w _ hw394_5)).trans hw394_5)⟩ (fun hHeld => ?_); refine with_tabW watchmanlaw08_BoardPass.tab12 watchmanlaw08_BoardPass.bits12 (fun HT_ HW_ => ?_)
                      generalize w65.drew = w66 at HO_370002 HO_377002 HO_384002 BK361 BK369 BK376 BK383 BK393 HB hx394_0 hx394_1 hx394_2 hx394_3 hx394_4 hx394_5 hHeld ⊢
                      refine pure_ (i := 0) (N := some 73) (v := ?_) (a' := ?_) (dn_ 1 13) rfl rfl (any_of HT_.out (by kernel_rfl)) (fun _ _ _ h => h) (Or.inl ⟨by rfl, ?_⟩) ?_ ?_
                      rotate_left
                      · intro w'
                        go_simp
                        with_reducible rfl
                      rotate_left; (simp only [Act.put, List.setIfInBounds_toArray, List.set_cons_zero, List.set_cons_succ, i64_w, i32_w]; rfl)
                      refine pure_ (i := 1) (N := some 74) (v := ?_) (a' := ?_) (dn_ 2 13) rfl rfl (any_of HT_.out (by kernel_rfl)) (fun _ _ _ h => h) (Or.inl ⟨by rfl, ?_⟩) ?_ ?_
                      rotate_left
                      · intro w'
                        go_simp
                        with_reducible rfl
                      rotate_left; (simp only [Act.put, List.setIfInBounds_toArray, List.set_cons_zero, List.set_cons_succ, i64_w, i32_w]; rfl)
                      refine pure_ (i := 2) (N := some 75) (v := ?_) (a' := ?_) (dn_ 3 13) rfl rfl (any_of HT_.out (by kernel_rfl)) (fun _ _ _ h => h) (Or.inl ⟨by rfl, ?_⟩) ?_ ?_
                      rotate_left
                      · intro w'
                        go_simp
                        with_reducible rfl
                      rotate_left; (simp only [Act.put, List.setIfInBounds_toArray, List.set_cons_zero, List.set_cons_succ, i64_w, i32_w]; rfl)
                      refine pure_ (i := 4) (N := some 77) (v := ?_) (a' := ?_) #[true, true, true, false, true, false, false, false, false, false, false, false, false] rfl rfl (any_of HT_.out (by kernel_rfl)) (fun _ _ _ h => h) (Or.inl ⟨by rfl, ?_⟩) ?_ ?_
                      rotate_left
                      · intro w'
                        go_simp
                        with_reducible rfl
                      rotate_left; (simp only [Act.put, List.setIfInBounds_toArray, List.set_cons_zero, List.set_cons_succ, i64_w, i32_w]; rfl)
                      refine pure_ (i := 6) (N := some 79) (v := ?_) (a' := ?_) #[true, true, true, false, true, false, true, false, false, false, false, false, false] rfl rfl (any_of HT_.out (by kernel_rfl)) (fun _ _ _ h => h) (Or.inl ⟨by rfl, ?_⟩) ?_ ?_
                      rotate_left
                      · intro w'
                        go_simp
                        with_reducible rfl
                      rotate_left; (simp only [Act.put, List.setIfInBounds_toArray, List.set_cons_zero, List.set_cons_succ, i64_w, i32_w]; rfl)
                      refine pure_ (i := 9) (N := some 82) (v := ?_) (a' := ?_) #[true, true, true, false, true, false, true, false, false, true, false, false, false] rfl rfl (any_of HT_.out (by kernel_rfl)) (fun _ _ _ h => h) (Or.inl ⟨by rfl, ?_⟩) ?_ ?_
                      rotate_left
                      · intro w'
                        go_simp
                        with_reducible rfl
                      rotate_left; (simp only [Act.put, List.setIfInBounds_toArray, List.set_cons_zero, List.set_cons_succ, i64_w, i32_w]; rfl)
                      refine take_ (i := 3) (N := some 76) (v := ?_) (a' := ?_) #[true, true, true, true, true, false, true, false, false, true, false, false, false] rfl rfl (take_ofW HT_.out HW_.out (by kernel_rfl)) (fun _ _ _ h => h) (Or.inl ⟨by rfl, ?_⟩) hHeld ?_ ?_
                      rotate_left
                      · rintro w' ⟨s0, s1, s2, s3, s4, s5, s6, s7, s8, s9, s10, s11, s12, s13, s14⟩
                        go_simp
                        with_reducible rfl
                      rotate_left; (simp only [Act.put, List.setIfInBounds_toArray, List.set_cons_zero, List.set_cons_succ, i64_w, i32_w]; rfl)
                      refine take_ (i := 5) (N := some 78) (v := ?_) (a' := ?_) #[true, true, true, true, true, true, true, false, false, true, false, false, false] rfl rfl (take_ofW HT_.out HW_.out (by kernel_rfl)) (fun _ _ _ h => h) (Or.inl ⟨by rfl, ?_⟩) hHeld ?_ ?_
                      rotate_left
                      · rintro w' ⟨s0, s1, s2, s3, s4, s5, s6, s7, s8, s9, s10, s11, s12, s13, s14⟩
                        go_simp
                        with_reducible rfl
                      rotate_left; (simp only [Act.put, List.setIfInBounds_toArray, List.set_cons_zero, List.set_cons_succ, i64_w, i32_w]; rfl)
                      refine pure_ (i := 7) (N := some 80) (v := ?_) (a' := ?_) #[true, true, true, true, true, true, true, true, false, true, false, false, false] rfl rfl (any_of HT_.out (by kernel_rfl)) (fun _ _ _ h => h) (Or.inl ⟨by rfl, ?_⟩) ?_ ?_
                      rotate_left
                      · intro w'
                        go_simp
                        with_reducible rfl
                      rotate_left; (simp only [Act.put, List.setIfInBounds_toArray, List.set_cons_zero, List.set_cons_succ, i64_w, i32_w]; rfl)
                      refine take_ (i := 8) (N := some 81) (v := ?_) (a' := ?_) (dn_ 10 13) rfl rfl (take_ofW HT_.out HW_.out (by kernel_rfl)) (fun _ _ _ h => h) (Or.inl ⟨by rfl, ?_⟩) hHeld ?_ ?_
                      rotate_left
                      · rintro w' ⟨s0, s1, s2, s3, s4, s5, s6, s7, s8, s9, s10, s11, s12, s13, s14⟩
                        go_simp
                        with_reducible rfl
                      rotate_left; (simp only [Act.put, List.setIfInBounds_toArray, List.set_cons_zero, List.set_cons_succ, i64_w, i32_w]; rfl)
                      refine one_ (i := 10) (N := some 83) (dn_ 11 13) rfl rfl (one_of HT_.out (by kernel_rfl)) (by decide) (fun K hK => ?_)
                      refine goes_ Try.func34 (by kernel_rfl) rfl #[.agg #[.int .i64 ((rd_T28 l0_2 x13_2).f0.f0), .int .i64 ((rd_T28 l0_2 x13_2).f0.f1), .int .i64 ((rd_T28 l0_2 x13_2).f1), .int .i64 ((rd_T28 l0_2 x13_2).f2), .int .i64 ((rd_T28 l0_2 x13_2).f3), .int .i64 ((rd_T28 l0_2 x13_2).f4)], .int .i64 a2] (by rfl) rfl rfl (by (try simp only [List.map_toArray, List.map_cons, List.map_nil]); first | done | rfl | (simp only [List.length_drop, List.length_take]; rfl)) ?_
                      with_reducible refine (alarm_Pass.calls k2 ((rd_T28 l0_2 x13_2).f0.f0) ((rd_T28 l0_2 x13_2).f0.f1) ((rd_T28 l0_2 x13_2).f1) ((rd_T28 l0_2 x13_2).f2) ((rd_T28 l0_2 x13_2).f3) ((rd_T28 l0_2 x13_2).f4) a2 t395 t396 t397 t398 t399 t400 _ A49.out).mono ?_
                      rintro e w67 ⟨rfl, hb⟩
                      refine ⟨_, rfl, ?_⟩
                      have n0_ := Aside0.mk (Kd.R_below (HO_370002.out) hb)
                      have n1_ := Aside0.mk (Kd.R_below (HO_377002.out) hb)
                      have n2_ := Aside0.mk (Kd.R_below (HO_384002.out) hb)
                      have n3_ := Aside0.mk (blk_below BK361.out hb)
                      have n4_ := Aside0.mk (blk_below BK369.out hb)
                      have n5_ := Aside0.mk (blk_below BK376.out hb)
                      have n6_ := Aside0.mk (blk_below BK383.out hb)
                      have n7_ := Aside0.mk (blk_below BK393.out hb)
                      have n8_ := Aside0.mk (below_step (by repeat (with_reducible first | exact HB.out | apply pw_below_drewN | apply below_drew1 | refine below_set ?_ GE361.out | refine below_set ?_ GE369.out | refine below_set ?_ GE376.out | refine below_set ?_ GE383.out | refine below_set ?_ GE393.out)) hb)
                      clear HO_370002
                      clear HO_377002
                      clear HO_384002
                      clear BK361
                      clear BK369
                      clear BK376
                      clear BK383
                      clear BK393
                      clear HB
                      have HO_370002 := n0_
                      have HO_377002 := n1_
                      have HO_384002 := n2_
                      have BK361 := n3_
                      have BK369 := n4_
                      have BK376 := n5_
                      have BK383 := n6_
                      have BK393 := n7_
                      have HB := n8_
                      clear n0_ n1_ n2_ n3_ n4_ n5_ n6_ n7_ n8_
                      (try clear hb)
                      (try clear hb2)
                      (try clear hk)
                      (try clear hi)
                      refine hK.out _ _ ⟨(blk_cell BK393.out 0).trans rfl, (blk_cell BK393.out 1).trans rfl, (blk_cell BK393.out 2).trans rfl, (blk_cell BK393.out 3).trans rfl, (blk_cell BK393.out 4).trans rfl, (blk_cell BK393.out 5).trans rfl, (blk_cell BK361.out 0).trans rfl, (blk_cell BK361.out 1).trans rfl, (blk_cell BK361.out 2).trans rfl, ((HB.out.cell (World.block_lt_of_cell? w _ hw394_0)).trans hw394_0), ((HB.out.cell (World.block_lt_of_cell? w _ hw394_1)).trans hw394_1), ((HB.out.cell (World.block_lt_of_cell? w _ hw394_2)).trans hw394_2), ((HB.out.cell (World.block_lt_of_cell? w _ hw394_3)).trans hw394_3), ((HB.out.cell (World.block_lt_of_cell? w _ hw394_4)).trans hw394_4), ((HB.out.cell (World.block_lt_of_cell? w _ hw394_5)).trans hw394_5)⟩ (fun hHeld => ?_)
                      clear hK K
                      refine norm_ (a' := ?_) ?_ ?_
                      rotate_left
                      · show Act.put _ (some 83) _ = _
                        simp only [Act.put, List.setIfInBounds_toArray, List.set_cons_zero, List.set_cons_succ, i64_w, i32_w]
                        rfl
                      refine pure_ (i := 11) (N := some 84) (v := ?_) (a' := ?_) (dn_ 12 13) rfl rfl (any_of HT_.out (by kernel_rfl)) (fun _ _ _ h => h) (Or.inl ⟨by rfl, ?_⟩) ?_ ?_
                      rotate_left
                      · intro w'
                        go_simp
                        with_reducible rfl
                      rotate_left; (simp only [Act.put, List.setIfInBounds_toArray, List.set_cons_zero, List.set_cons_succ, i64_w, i32_w]; rfl)
                      refine pure_ (i := 12) (N := some 85) (v := ?_) (a' := ?_) #[true, true, true, true, true, true, true, true, true, true, true, true, true] rfl rfl (any_of HT_.out (by kernel_rfl)) (fun _ _ _ h => h) (Or.inl ⟨by rfl, ?_⟩) ?_ ?_
                      rotate_left
                      · intro w'
                        go_simp
                        with_reducible rfl
                      rotate_left; (simp only [Act.put, List.setIfInBounds_toArray, List.set_cons_zero, List.set_cons_succ, i64_w, i32_w]; rfl)
                      refine done_ (done_of HT_.out (by kernel_rfl)) ?_
                      try go_wp2
                      go_roundg k2
                      case measure => have := HJ11.out; have := HK2.out; omega
                      case rel => exact ⟨(wrap64 (x13_2 + 1)), (by first | rfl | (simp; done) | (simp [*]; done)), H', ⟨by have := HJ11.out; have := HK2.out; omega⟩, ⟨by (with_reducible repeat (first | apply Kd.R_alloc | apply Kd.R_drewN | apply Kd.R_drew)); exact Kd.R_mono HO_370002.out (fun _ hk => ⟨hk.1, hk.2.1⟩)⟩, ⟨by (with_reducible repeat (first | apply Kd.R_alloc | apply Kd.R_drewN | apply Kd.R_drew)); exact Kd.R_mono HO_377002.out (fun _ hk => ⟨hk.1, hk.2.1⟩)⟩, ⟨by (with_reducible repeat (first | apply Kd.R_alloc | apply Kd.R_drewN | apply Kd.R_drew)); exact Kd.R_mono HO_384002.out (fun _ hk => ⟨hk.1, hk.2.1⟩)⟩, ⟨by (with_reducible repeat (first | refine blk_drewN ?_ _ | refine blk_drew ?_ | refine blk_alloc ?_ _)); exact BK361.out⟩, ⟨by (with_reducible repeat (first | refine blk_drewN ?_ _ | refine blk_drew ?_ | refine blk_alloc ?_ _)); exact BK369.out⟩, ⟨by (with_reducible repeat (first | refine blk_drewN ?_ _ | refine blk_drew ?_ | refine blk_alloc ?_ _)); exact BK376.out⟩, ⟨by (with_reducible repeat (first | refine blk_drewN ?_ _ | refine blk_drew ?_ | refine blk_alloc ?_ _)); exact BK383.out⟩, ⟨by repeat (with_reducible first | exact HB.out | apply pw_below_drewN | apply below_drew1 | refine below_set ?_ GE361.out | refine below_set ?_ GE369.out | refine below_set ?_ GE376.out | refine below_set ?_ GE383.out | refine below_set ?_ GE393.out)⟩⟩
                  · replace c48 := Bool.eq_false_iff.mpr c48
                    subst c48
                    have H1 : (none) = some r := by rw [if_neg (show ¬ (false = true) by decide)] at H; exact H
                    clear H
                    have H := H1
                    clear H1
                    exact absurd H (by simp)
                · rw [if_neg c46] at H
                  exact absurd H (by simp)
              · rw [if_neg c45] at H
                have c45b0 : decide (x13_2 < (l0_2.length : Int)) = false := decide_eq_false c45
                clear c45
                replace H := Option.bind_eq_some_iff.mp H
                obtain ⟨t401, A680, H⟩ := H
                replace H : (if t401 = true then (if t382 = 0 then ((watchmanref08_Same.f k2 t370 t371 t372 t377 t378 t379).bind fun t402 => (if t402 = true then (if (t372.length : Int) = (l0_2.length : Int) then (if t371 = a2 then ((board_Is.f k2 t370 t371 t372).bind fun t403 => (some t403)) else (none)) else (none)) else (none))) else (none)) else (none)) = some r := H
                have A68 := Aside0.mk A680
                clear A680
                by_cases c69 : t401 = true
                · subst c69
                  have H1 : (if t382 = 0 then ((watchmanref08_Same.f k2 t370 t371 t372 t377 t378 t379).bind fun t402 => (if t402 = true then (if (t372.length : Int) = (l0_2.length : Int) then (if t371 = a2 then ((board_Is.f k2 t370 t371 t372).bind fun t403 => (some t403)) else (none)) else (none)) else (none))) else (none)) = some r := by rw [if_pos rfl] at H; exact H
                  clear H
                  have H := H1
                  clear H1
                  by_cases c70 : t382 = 0
                  · rw [if_pos c70] at H
                    have c70b0 : (t382 == 0) = true := beq_iff_eq.mpr c70
                    have c70b1 : (t382 != 0) = false := bne_eq_false_iff_eq.mpr c70
                    clear c70
                    replace H := Option.bind_eq_some_iff.mp H
                    obtain ⟨t402, A710, H⟩ := H
                    replace H : (if t402 = true then (if (t372.length : Int) = (l0_2.length : Int) then (if t371 = a2 then ((board_Is.f k2 t370 t371 t372).bind fun t403 => (some t403)) else (none)) else (none)) else (none)) = some r := H
                    have A71 := Aside0.mk A710
                    clear A710
                    by_cases c72 : t402 = true
                    · subst c72
                      have H1 : (if (t372.length : Int) = (l0_2.length : Int) then (if t371 = a2 then ((board_Is.f k2 t370 t371 t372).bind fun t403 => (some t403)) else (none)) else (none)) = some r := by rw [if_pos rfl] at H; exact H
                      clear H
                      have H := H1
                      clear H1
                      by_cases c73 : (t372.length : Int) = (l0_2.length : Int)
                      · rw [if_pos c73] at H
                        have c73b0 : ((t372.length : Int) == (l0_2.length : Int)) = true := beq_iff_eq.mpr c73
                        have c73b1 : ((t372.length : Int) != (l0_2.length : Int)) = false := bne_eq_false_iff_eq.mpr c73
                        have c73b2 : (t372.length == l0_2.length) = true := by first | simpa using c73 | (simp at c73 ⊢; omega)
                        clear c73
                        by_cases c74 : t371 = a2
                        · rw [if_pos c74] at H
                          have c74b0 : (t371 == a2) = true := beq_iff_eq.mpr c74
                          have c74b1 : (t371 != a2) = false := bne_eq_false_iff_eq.mpr c74
                          clear c74
                          replace H := Option.bind_eq_some_iff.mp H
                          obtain ⟨t403, A750, H⟩ := H
                          replace H : (some t403) = some r := H
                          have A75 := Aside0.mk A750
                          clear A750
                          obtain rfl := Option.some.inj H
                          have hnb76 := NB361_369.out
                          have hnc76 := NB369_361.out
                          have hnb77 := NB361_376.out
                          have hnc77 := NB376_361.out
                          have hnb78 := NB361_383.out
                          have hnc78 := NB383_361.out
                          have hcz79_0 : wr.cell? ⟨gb361, 0, none⟩ = some (.int .i64 a0_0) := (blk_cell BK361.out 0).trans rfl
                          have hcz79_1 : wr.cell? ⟨gb361, 1, none⟩ = some (.int .i64 a0_1) := (blk_cell BK361.out 1).trans rfl
                          have hcz79_2 : wr.cell? ⟨gb361, 2, none⟩ = some (.slice A0_2 l0_2.length c0_2) := (blk_cell BK361.out 2).trans rfl
                          have hfz79_0 := blk_frozen BK361.out 0
                          have hfz79_1 := blk_frozen BK361.out 1
                          have hfz79_2 := blk_frozen BK361.out 2
                          go_wp2_with (first | ((with_reducible refine gate_callee (f := 31) rfl ?_); refine goesL_ (some 86) rfl rfl Try.func31 (by kernel_rfl) rfl #[] rfl (by (try simp only [List.map_toArray, List.map_cons, List.map_nil]); first | done | rfl | (simp only [List.length_drop, List.length_take]; rfl)) ?_; (with_reducible refine (watchmanlaw08_boards.calls k2  true _ A68.out).mono ?_); rintro e w80 ⟨rfl, hb⟩; refine ⟨_, rfl, ?_⟩; have n0_ := Aside0.mk (Kd.R_below (HO_370002.out) hb); have n1_ := Aside0.mk (Kd.R_below (HO_377002.out) hb); have n2_ := Aside0.mk (Kd.R_below (HO_384002.out) hb); have n3_ := Aside0.mk (blk_below BK361.out hb); have n4_ := Aside0.mk (blk_below BK369.out hb); have n5_ := Aside0.mk (blk_below BK376.out hb); have n6_ := Aside0.mk (blk_below BK383.out hb); have n7_ := Aside0.mk (below_step (by repeat (with_reducible first | exact HB.out | apply pw_below_drewN | apply below_drew1 | refine below_set ?_ GE361.out | refine below_set ?_ GE369.out | refine below_set ?_ GE376.out | refine below_set ?_ GE383.out)) hb); clear HO_370002; clear HO_377002; clear HO_384002; clear BK361; clear BK369; clear BK376; clear BK383; clear HB; have HO_370002 := n0_; have HO_377002 := n1_; have HO_384002 := n2_; have BK361 := n3_; have BK369 := n4_; have BK376 := n5_; have BK383 := n6_; have HB := n7_; clear n0_ n1_ n2_ n3_ n4_ n5_ n6_ n7_; (try clear hb); (try clear hb2); (try clear hk); (try clear hi); have hnb81 := NB376_369.out; have hnc81 := NB369_376.out; have hnb82 := NB376_383.out; have hnc82 := NB383_376.out; have hcz83_0 : w80.cell? ⟨gb376, 0, none⟩ = some (.int .i64 t370) := (blk_cell BK376.out 0).trans rfl; have hcz83_1 : w80.cell? ⟨gb376, 1, none⟩ = some (.int .i64 t371) := (blk_cell BK376.out 1).trans rfl; have hcz83_2 : w80.cell? ⟨gb376, 2, none⟩ = some (.slice Ao27 t372.length co27) := (blk_cell BK376.out 2).trans rfl; have hfz83_0 := blk_frozen BK376.out 0; have hfz83_1 := blk_frozen BK376.out 1; have hfz83_2 := blk_frozen BK376.out 2; have hnb84 := NB383_369.out; have hnc84 := NB369_383.out; have hcz85_0 : w80.cell? ⟨gb383, 0, none⟩ = some (.int .i64 t377) := (blk_cell BK383.out 0).trans rfl; have hcz85_1 : w80.cell? ⟨gb383, 1, none⟩ = some (.int .i64 t378) := (blk_cell BK383.out 1).trans rfl; have hcz85_2 : w80.cell? ⟨gb383, 2, none⟩ = some (.slice Ao35 t379.length co35) := (blk_cell BK383.out 2).trans rfl; have hfz85_0 := blk_frozen BK383.out 0; have hfz85_1 := blk_frozen BK383.out 1; have hfz85_2 := blk_frozen BK383.out 2) | (go_at_call 25; (with_reducible refine (watchmanref08_Same.calls k2 t370 t371 _ _ t372 t377 t378 _ _ t379 true _ ?side1 ?side2 ?side3 ?side4 A71.out).mono ?_); (case side1 => repeat (first | exact (Kd.R_reads' HO_377002.out).2.2 | (with_reducible refine Kd.C_alloc ?_ _) | (with_reducible refine Kd.C_drewN ?_ _) | (with_reducible refine Kd.C_drew ?_))); (case side2 => exact (Kd.R_reads' HO_377002.out).2.1); (case side3 => repeat (first | exact (Kd.R_reads' HO_384002.out).2.2 | (with_reducible refine Kd.C_alloc ?_ _) | (with_reducible refine Kd.C_drewN ?_ _) | (with_reducible refine Kd.C_drew ?_))); (case side4 => exact (Kd.R_reads' HO_384002.out).2.1); rintro e w86 ⟨rfl, hb⟩; have n0_ := Aside0.mk (Kd.R_below (HO_370002.out) hb); have n1_ := Aside0.mk (Kd.R_below (HO_377002.out) hb); have n2_ := Aside0.mk (Kd.R_below (HO_384002.out) hb); have n3_ := Aside0.mk (blk_below BK361.out hb); have n4_ := Aside0.mk (blk_below BK369.out hb); have n5_ := Aside0.mk (blk_below BK376.out hb); have n6_ := Aside0.mk (blk_below BK383.out hb); have n7_ := Aside0.mk (below_step (by repeat (with_reducible first | exact HB.out | apply pw_below_drewN | apply below_drew1 | refine below_set ?_ GE361.out | refine below_set ?_ GE369.out | refine below_set ?_ GE376.out | refine below_set ?_ GE383.out)) hb); clear HO_370002; clear HO_377002; clear HO_384002; clear BK361; clear BK369; clear BK376; clear BK383; clear HB; have HO_370002 := n0_; have HO_377002 := n1_; have HO_384002 := n2_; have BK361 := n3_; have BK369 := n4_; have BK376 := n5_; have BK383 := n6_; have HB := n7_; clear n0_ n1_ n2_ n3_ n4_ n5_ n6_ n7_; (try clear hb); (try clear hb2); (try clear hk); (try clear hi); have hcz87_0 : w86.cell? ⟨gb376, 0, none⟩ = some (.int .i64 t370) := (blk_cell BK376.out 0).trans rfl; have hcz87_1 : w86.cell? ⟨gb376, 1, none⟩ = some (.int .i64 t371) := (blk_cell BK376.out 1).trans rfl; have hcz87_2 : w86.cell? ⟨gb376, 2, none⟩ = some (.slice Ao27 t372.length co27) := (blk_cell BK376.out 2).trans rfl; have hfz87_0 := blk_frozen BK376.out 0; have hfz87_1 := blk_frozen BK376.out 1; have hfz87_2 := blk_frozen BK376.out 2; have hcz88_0 : w86.cell? ⟨gb361, 0, none⟩ = some (.int .i64 a0_0) := (blk_cell BK361.out 0).trans rfl; have hcz88_1 : w86.cell? ⟨gb361, 1, none⟩ = some (.int .i64 a0_1) := (blk_cell BK361.out 1).trans rfl; have hcz88_2 : w86.cell? ⟨gb361, 2, none⟩ = some (.slice A0_2 l0_2.length c0_2) := (blk_cell BK361.out 2).trans rfl; have hfz88_0 := blk_frozen BK361.out 0; have hfz88_1 := blk_frozen BK361.out 1; have hfz88_2 := blk_frozen BK361.out 2) | (go_at_call 32; (with_reducible refine (board_Is.calls k2 t370 t371 _ _ t372 t403 _ ?side1 ?side2 A75.out).mono ?_); (case side1 => repeat (first | exact (Kd.R_reads' HO_377002.out).2.2 | (with_reducible refine Kd.C_alloc ?_ _) | (with_reducible refine Kd.C_drewN ?_ _) | (with_reducible refine Kd.C_drew ?_))); (case side2 => exact (Kd.R_reads' HO_377002.out).2.1); rintro e w89 ⟨rfl, hb⟩; have n0_ := Aside0.mk (Kd.R_below (HO_370002.out) hb); have n1_ := Aside0.mk (Kd.R_below (HO_377002.out) hb); have n2_ := Aside0.mk (Kd.R_below (HO_384002.out) hb); have n3_ := Aside0.mk (blk_below BK361.out hb); have n4_ := Aside0.mk (blk_below BK369.out hb); have n5_ := Aside0.mk (blk_below BK376.out hb); have n6_ := Aside0.mk (blk_below BK383.out hb); have n7_ := Aside0.mk (below_step (by repeat (with_reducible first | exact HB.out | apply pw_below_drewN | apply below_drew1 | refine below_set ?_ GE361.out | refine below_set ?_ GE369.out | refine below_set ?_ GE376.out | refine below_set ?_ GE383.out)) hb); clear HO_370002; clear HO_377002; clear HO_384002; clear BK361; clear BK369; clear BK376; clear BK383; clear HB; have HO_370002 := n0_; have HO_377002 := n1_; have HO_384002 := n2_; have BK361 := n3_; have BK369 := n4_; have BK376 := n5_; have BK383 := n6_; have HB := n7_; clear n0_ n1_ n2_ n3_ n4_ n5_ n6_ n7_; (try clear hb); (try clear hb2); (try clear hk); (try clear hi)))
                          go_ret
                          exact ⟨by first | rfl | (simp [errW_none, errW_some] <;> rfl) | (simp [*, errW_none, errW_some] <;> rfl), by repeat (with_reducible first | exact HB.out | apply pw_below_drewN | apply below_drew1 | refine below_set ?_ GE361.out | refine below_set ?_ GE369.out | refine below_set ?_ GE376.out | refine below_set ?_ GE383.out)⟩
                        · rw [if_neg c74] at H
                          exact absurd H (by simp)
                      · rw [if_neg c73] at H
                        exact absurd H (by simp)
                    · replace c72 := Bool.eq_false_iff.mpr c72
                      subst c72
                      have H1 : (none) = some r := by rw [if_neg (show ¬ (false = true) by decide)] at H; exact H
                      clear H
                      have H := H1
                      clear H1
                      exact absurd H (by simp)
                  · rw [if_neg c70] at H
                    exact absurd H (by simp)
                · replace c69 := Bool.eq_false_iff.mpr c69
                  subst c69
                  have H1 : (none) = some r := by rw [if_neg (show ¬ (false = true) by decide)] at H; exact H
                  clear H
                  have H := H1
                  clear H1
                  exact absurd H (by simp)

end Go.Proofs.Ytcfpbmdndapeaaa.F
