-- Written by a program of this session (xprint.py), out of the translation and of contracts proved by hand.
import Derived.Test.YtcfpbmdndapeaaaF0
import Derived.Test.YtcfpbmdndapeaaaF1
import Derived.Test.YtcfpbmdndapeaaaF7
import Derived.Test.YtcfpbmdndapeaaaF8
import Derived.Test.YtcfpbmdndapeaaaF15
import Derived.Test.YtcfpbmdndapeaaaF16
import Derived.Test.YtcfpbmdndapeaaaF20
namespace Go.Proofs.Ytcfpbmdndapeaaa.F
open Go.RowKit Go.Proofs.YtcfpbmdndapeaaaV.PrintWords Go.Proofs.YtcfpbmdndapeaaaV.PrintLast Go.Proofs.YtcfpbmdndapeaaaV.PrintMore
attribute [local go_sem] max2_int min2_int max_two min_two max_three min_three max_four min_four   -- for this text's walks alone
set_option linter.unusedVariables false
set_option linter.unusedSimpArgs false

attribute [local go_sem high] eqA26
theorem cf6_ {W : World} {g : Nat} {a : Addr} {o0 o1 o2 o3 o4 o5 : Nat} (h : a.block ≠ (⟨g, o5, none⟩ : Addr).block) {v0 v1 v2 v3 v4 v5 : Value} : ((((((W.setCell ⟨g, o0, none⟩ v0).setCell ⟨g, o1, none⟩ v1).setCell ⟨g, o2, none⟩ v2).setCell ⟨g, o3, none⟩ v3).setCell ⟨g, o4, none⟩ v4).setCell ⟨g, o5, none⟩ v5).cell? a = W.cell? a :=
 (cell_far (p := ⟨g, o5, none⟩) h _).trans ((cell_far (p := ⟨g, o4, none⟩) h _).trans ((cell_far (p := ⟨g, o3, none⟩) h _).trans ((cell_far (p := ⟨g, o2, none⟩) h _).trans ((cell_far (p := ⟨g, o1, none⟩) h _).trans (cell_far (p := ⟨g, o0, none⟩) h _)))))
/-! ### watchmanlaw09_DuePass: function 11 -/
mutual
def watchmanlaw09_DuePass.j0 : Nat → Int → List (S65) → Int → Int → Bool → Int → Int → List (S28) → Int → Int → List (S28) → Option (Bool)
 | 0, _, _, _, _, _, _, _, _, _, _, _ => none
 | k + 1, x1, x5, x6, x8, x35, x312000, x312001, x312002, x324000, x324001, x324002 => if x35 = true then ((watchmanlaw09_coming.f).bind fun t324 => (if t324 = true then (if x6 = 0 then (some (x8 == 1)) else (some true)) else (none))) else (watchmanlaw09_DuePass.l0 k x1 x5 0 x312000 x312001 x312002 x324000 x324001 x324002)
def watchmanlaw09_DuePass.l0 : Nat → Int → List (S65) → Int → Int → Int → List (S28) → Int → Int → List (S28) → Option (Bool)
 | 0, _, _, _, _, _, _, _, _, _ => none
 | k + 1, x1, x5, x9, x312000, x312001, x312002, x324000, x324001, x324002 => if x9 < (x312002.length : Int) then (if 0 ≤ x9 then (watchmanlaw09_DuePass.l1 k x1 x5 x9 ((rd_T28 x312002 x9).f1) 0 x312000 x312001 x312002 x324000 x324001 x324002) else (none)) else ((watchmanlaw09_coming.f).bind fun t325 => (some t325))
def watchmanlaw09_DuePass.l1 : Nat → Int → List (S65) → Int → Int → Int → Int → Int → List (S28) → Int → Int → List (S28) → Option (Bool)
 | 0, _, _, _, _, _, _, _, _, _, _, _ => none
 | k + 1, x1, x5, x9, x10, x11, x312000, x312001, x312002, x324000, x324001, x324002 => if x11 < (x5.length : Int) then (if 0 ≤ x11 then (if 0 ≤ x9 then (if x9 < (x312002.length : Int) then (if (((rd_T65 x5 x11).f1.f0) == ((rd_T28 x312002 x9).f0.f0) && (((rd_T65 x5 x11).f1.f1) == ((rd_T28 x312002 x9).f0.f1))) = true then (watchmanlaw09_DuePass.l1 k x1 x5 x9 ((rd_T65 x5 x11).f2) (wrap64 (x11 + 1)) x312000 x312001 x312002 x324000 x324001 x324002) else (watchmanlaw09_DuePass.l1 k x1 x5 x9 x10 (wrap64 (x11 + 1)) x312000 x312001 x312002 x324000 x324001 x324002)) else (none)) else (none)) else (none)) else (if 0 ≤ x9 then (if x9 < (x312002.length : Int) then ((board_Get.f x324000 x324001 x324002 ((rd_T28 x312002 x9).f0.f0) ((rd_T28 x312002 x9).f0.f1)).bind fun bt331 => ((due_At.f k x312000 x312001 x312002 ((rd_T28 x312002 x9).f0.f0) ((rd_T28 x312002 x9).f0.f1) x1).bind fun bt340 => (if bt331.2.2.2.2.2.2 = true then (if bt340.2 = true then (if bt331.2.2.1 = x10 then (if bt340.1 = x10 then (watchmanlaw09_DuePass.l0 k x1 x5 (wrap64 (x9 + 1)) x312000 x312001 x312002 x324000 x324001 x324002) else (none)) else (none)) else (none)) else (none)))) else (none)) else (none))
end
def watchmanlaw09_DuePass.f (k : Nat) (a0_0 : Int) (a0_1 : Int) (l0_2 : List (S28)) (a1 : Int) : Option (Bool) := (watchmanlaw09_far.f a0_0 a0_1 l0_2).bind fun t312 => (if t312 = true then (some true) else ((due_Turns.f k a0_0 a0_1 l0_2 a1).bind fun bt313 => ((board_Pass.f k a0_0 a0_1 l0_2 a1).bind fun bt317 => (if bt313.2 = 0 then (watchmanlaw09_DuePass.j0 k a1 bt313.1 bt313.2 bt317.2.2.2 (bt317.2.2.2 != 0) a0_0 a0_1 l0_2 bt317.1 bt317.2.1 bt317.2.2.1) else (watchmanlaw09_DuePass.j0 k a1 bt313.1 bt313.2 bt317.2.2.2 true a0_0 a0_1 l0_2 bt317.1 bt317.2.1 bt317.2.2.1)))))
theorem watchmanlaw09_DuePass.mono_l : ∀ k, (∀ y0 y1 y2 y3 y4 y5 y6 y7 y8 y9 y10, LeO (watchmanlaw09_DuePass.j0 k y0 y1 y2 y3 y4 y5 y6 y7 y8 y9 y10) (watchmanlaw09_DuePass.j0 (k + 1) y0 y1 y2 y3 y4 y5 y6 y7 y8 y9 y10)) ∧ (∀ y0 y1 y2 y3 y4 y5 y6 y7 y8, LeO (watchmanlaw09_DuePass.l0 k y0 y1 y2 y3 y4 y5 y6 y7 y8) (watchmanlaw09_DuePass.l0 (k + 1) y0 y1 y2 y3 y4 y5 y6 y7 y8)) ∧ (∀ y0 y1 y2 y3 y4 y5 y6 y7 y8 y9 y10, LeO (watchmanlaw09_DuePass.l1 k y0 y1 y2 y3 y4 y5 y6 y7 y8 y9 y10) (watchmanlaw09_DuePass.l1 (k + 1) y0 y1 y2 y3 y4 y5 y6 y7 y8 y9 y10))
 | 0 => ⟨fun _ _ _ _ _ _ _ _ _ _ _ r h => by simp [watchmanlaw09_DuePass.j0] at h, fun _ _ _ _ _ _ _ _ _ r h => by simp [watchmanlaw09_DuePass.l0] at h, fun _ _ _ _ _ _ _ _ _ _ _ r h => by simp [watchmanlaw09_DuePass.l1] at h⟩
 | k + 1 => by
  obtain ⟨ih0, ih1, ih2⟩ := watchmanlaw09_DuePass.mono_l k
  refine ⟨?_, ?_, ?_⟩
  ·intro y0 y1 y2 y3 y4 y5 y6 y7 y8 y9 y10
   unfold watchmanlaw09_DuePass.j0
   repeat' first
   | (with_reducible exact ih0 _ _ _ _ _ _ _ _ _ _ _)
   | (with_reducible exact ih1 _ _ _ _ _ _ _ _ _)
   | (with_reducible exact ih2 _ _ _ _ _ _ _ _ _ _ _)
   | (with_reducible exact board_Pass.mono _ _ _ _ _)
   | (with_reducible exact due_At.mono _ _ _ _ _ _ _)
   | (with_reducible exact due_Turns.mono _ _ _ _ _)
   | (with_reducible exact LeO.refl _)
   | (with_reducible exact LeO.none _)
   | (with_reducible refine LeO.ite ?_ ?_)
   | (with_reducible refine LeO.bind ?_ (fun _ => ?_))
   | exact ih0 _ _ _ _ _ _ _ _ _ _ _
   | exact ih1 _ _ _ _ _ _ _ _ _
   | exact ih2 _ _ _ _ _ _ _ _ _ _ _
   | exact board_Pass.mono _ _ _ _ _
   | exact due_At.mono _ _ _ _ _ _ _
   | exact due_Turns.mono _ _ _ _ _
   | exact LeO.none _
   | refine LeO.ite ?_ ?_
   | refine LeO.bind ?_ (fun _ => ?_)
  ·intro y0 y1 y2 y3 y4 y5 y6 y7 y8
   unfold watchmanlaw09_DuePass.l0
   repeat' first
   | (with_reducible exact ih0 _ _ _ _ _ _ _ _ _ _ _)
   | (with_reducible exact ih1 _ _ _ _ _ _ _ _ _)
   | (with_reducible exact ih2 _ _ _ _ _ _ _ _ _ _ _)
   | (with_reducible exact board_Pass.mono _ _ _ _ _)
   | (with_reducible exact due_At.mono _ _ _ _ _ _ _)
   | (with_reducible exact due_Turns.mono _ _ _ _ _)
   | (with_reducible exact LeO.refl _)
   | (with_reducible exact LeO.none _)
   | (with_reducible refine LeO.ite ?_ ?_)
   | (with_reducible refine LeO.bind ?_ (fun _ => ?_))
   | exact ih0 _ _ _ _ _ _ _ _ _ _ _
   | exact ih1 _ _ _ _ _ _ _ _ _
   | exact ih2 _ _ _ _ _ _ _ _ _ _ _
   | exact board_Pass.mono _ _ _ _ _
   | exact due_At.mono _ _ _ _ _ _ _
   | exact due_Turns.mono _ _ _ _ _
   | exact LeO.none _
   | refine LeO.ite ?_ ?_
   | refine LeO.bind ?_ (fun _ => ?_)
  ·intro y0 y1 y2 y3 y4 y5 y6 y7 y8 y9 y10
   unfold watchmanlaw09_DuePass.l1
   repeat' first
   | (with_reducible exact ih0 _ _ _ _ _ _ _ _ _ _ _)
   | (with_reducible exact ih1 _ _ _ _ _ _ _ _ _)
   | (with_reducible exact ih2 _ _ _ _ _ _ _ _ _ _ _)
   | (with_reducible exact board_Pass.mono _ _ _ _ _)
   | (with_reducible exact due_At.mono _ _ _ _ _ _ _)
   | (with_reducible exact due_Turns.mono _ _ _ _ _)
   | (with_reducible exact LeO.refl _)
   | (with_reducible exact LeO.none _)
   | (with_reducible refine LeO.ite ?_ ?_)
   | (with_reducible refine LeO.bind ?_ (fun _ => ?_))
   | exact ih0 _ _ _ _ _ _ _ _ _ _ _
   | exact ih1 _ _ _ _ _ _ _ _ _
   | exact ih2 _ _ _ _ _ _ _ _ _ _ _
   | exact board_Pass.mono _ _ _ _ _
   | exact due_At.mono _ _ _ _ _ _ _
   | exact due_Turns.mono _ _ _ _ _
   | exact LeO.none _
   | refine LeO.ite ?_ ?_
   | refine LeO.bind ?_ (fun _ => ?_)
theorem watchmanlaw09_DuePass.mono : ∀ a0 a1 a2 a3 k, LeO (watchmanlaw09_DuePass.f k a0 a1 a2 a3) (watchmanlaw09_DuePass.f (k + 1) a0 a1 a2 a3) := by
 intro a0 a1 a2 a3 k
 obtain ⟨ih0, ih1, ih2⟩ := watchmanlaw09_DuePass.mono_l k
 unfold watchmanlaw09_DuePass.f
 repeat' first
  | (with_reducible exact ih0 _ _ _ _ _ _ _ _ _ _ _)
  | (with_reducible exact ih1 _ _ _ _ _ _ _ _ _)
  | (with_reducible exact ih2 _ _ _ _ _ _ _ _ _ _ _)
  | (with_reducible exact board_Pass.mono _ _ _ _ _)
  | (with_reducible exact due_At.mono _ _ _ _ _ _ _)
  | (with_reducible exact due_Turns.mono _ _ _ _ _)
  | (with_reducible exact LeO.refl _)
  | (with_reducible exact LeO.none _)
  | (with_reducible refine LeO.ite ?_ ?_)
  | (with_reducible refine LeO.bind ?_ (fun _ => ?_))
  | exact ih0 _ _ _ _ _ _ _ _ _ _ _
  | exact ih1 _ _ _ _ _ _ _ _ _
  | exact ih2 _ _ _ _ _ _ _ _ _ _ _
  | exact board_Pass.mono _ _ _ _ _
  | exact due_At.mono _ _ _ _ _ _ _
  | exact due_Turns.mono _ _ _ _ _
  | exact LeO.none _
  | refine LeO.ite ?_ ?_
  | refine LeO.bind ?_ (fun _ => ?_)
def watchmanlaw09_DuePass.T14 : Bool × List (List Nat × List Nat) := (true, [([], []), ([], []), ([0, 1], [0, 1]), ([2], [2]), ([3], [3]), ([], []), ([5], [5]), ([], []), ([6, 7], [6, 7]), ([8], [8]), ([9], [9]), ([4, 10], [4, 10])])
def watchmanlaw09_DuePass.B14 : List Nat := [0, 0, 3, 7, 15, 0, 32, 0, 224, 480, 992, 2047]
theorem watchmanlaw09_DuePass.tab14 : rtab .any (opsOf Try.f11 14) = watchmanlaw09_DuePass.T14 := by kernel_rfl
theorem watchmanlaw09_DuePass.bits14 : waitsOk watchmanlaw09_DuePass.T14.2 watchmanlaw09_DuePass.B14 = true := by kernel_rfl
def watchmanlaw09_DuePass.T16 : Bool × List (List Nat × List Nat) := (true, [([], []), ([], []), ([1], [1]), ([], []), ([2, 3], [2, 3]), ([4], [4]), ([5], [5]), ([0, 6], [0, 6]), ([7], [7]), ([8], [8]), ([8], [8]), ([], []), ([11, 9, 7, 0, 1, 2, 3, 4, 5, 6, 7, 8, 9, 11], [9, 11]), ([10, 12, 0, 1, 2, 3, 4, 5, 6, 7, 8, 9, 10, 11, 12], [10])])
def watchmanlaw09_DuePass.B16 : List Nat := [0, 0, 2, 0, 14, 30, 62, 127, 255, 511, 511, 0, 3071, 8191]
theorem watchmanlaw09_DuePass.tab16 : rtab .any (opsOf Try.f11 16) = watchmanlaw09_DuePass.T16 := by kernel_rfl
theorem watchmanlaw09_DuePass.bits16 : waitsOk watchmanlaw09_DuePass.T16.2 watchmanlaw09_DuePass.B16 = true := by kernel_rfl
def watchmanlaw09_DuePass.T17 : Bool × List (List Nat × List Nat) := (true, [([], []), ([], []), ([1], [1]), ([], []), ([2, 3], [2, 3]), ([4], [4]), ([5], [5]), ([], []), ([0, 6, 7], [0, 6, 7]), ([8], [8]), ([9], [9]), ([9], [9]), ([10, 8, 0, 1, 2, 3, 4, 5, 6, 7, 8, 9, 10], [10]), ([11, 12, 0, 1, 2, 3, 4, 5, 6, 7, 8, 9, 10, 11, 12], [11])])
def watchmanlaw09_DuePass.B17 : List Nat := [0, 0, 2, 0, 14, 30, 62, 0, 255, 511, 1023, 1023, 2047, 8191]
theorem watchmanlaw09_DuePass.tab17 : rtab .any (opsOf Try.f11 17) = watchmanlaw09_DuePass.T17 := by kernel_rfl
theorem watchmanlaw09_DuePass.bits17 : waitsOk watchmanlaw09_DuePass.T17.2 watchmanlaw09_DuePass.B17 = true := by kernel_rfl
set_option maxHeartbeats 8000000 in
set_option maxRecDepth 100000 in
theorem watchmanlaw09_DuePass.calls (k : Nat) (a0_0 : Int) (a0_1 : Int) (A0_2 : Option Addr) (c0_2 : Nat) (l0_2 : List (S28)) (a1 : Int) (r : Bool) (w : World) (hr0_2 : Kd.C k28 w A0_2 l0_2.length l0_2) (hc0_2 : l0_2.length ≤ c0_2) (h : watchmanlaw09_DuePass.f k a0_0 a0_1 l0_2 a1 = some r) :
 Calls Try.prog 11 #[.agg #[.int .i64 a0_0, .int .i64 a0_1, .slice A0_2 l0_2.length c0_2], .int .i64 a1] w fun e w' => e = .returned (.bool r) ∧ Below w.heap.size w w' := by
 have hu24 := Try.underlying24
 have hu26 := Try.underlying26
 have hu28 := Try.underlying28
 have HR0_2 := Aside0.mk hr0_2
 have HC0_2 := Aside0.mk hc0_2
 clear hr0_2 hc0_2
 have HB := Aside0.mk (Below.refl w.heap.size w)
 have H : ((watchmanlaw09_far.f a0_0 a0_1 l0_2).bind fun t312 => (if t312 = true then (some true) else ((due_Turns.f k a0_0 a0_1 l0_2 a1).bind fun bt313 => ((board_Pass.f k a0_0 a0_1 l0_2 a1).bind fun bt317 => (if bt313.2 = 0 then (watchmanlaw09_DuePass.j0 k a1 bt313.1 bt313.2 bt317.2.2.2 (bt317.2.2.2 != 0) a0_0 a0_1 l0_2 bt317.1 bt317.2.1 bt317.2.2.1) else (watchmanlaw09_DuePass.j0 k a1 bt313.1 bt313.2 bt317.2.2.2 true a0_0 a0_1 l0_2 bt317.1 bt317.2.1 bt317.2.2.1)))))) = some r := h
 clear h
 replace H := Option.bind_eq_some_iff.mp H
 obtain ⟨t312, A30, H⟩ := H
 try dsimp only at H
 have A3 := Aside0.mk A30
 clear A30
 by_cases c4 : t312 = true
 ·subst c4
  rw [if_pos rfl] at H; try dsimp only at H
  obtain rfl := Option.some.inj H
  go_enter Try.func11, Try.ntmps11
  go_wp2_with (first | ((with_reducible refine gate_dst (N := 2) rfl ?_); refine box_event ?hg (N := 2) ?hd (cs := #[.int .i64 a0_0, .int .i64 a0_1, .slice A0_2 l0_2.length c0_2]) (t := 24) ?hr ?_; (case hd => rfl); (case hg => rfl); (case hr => first | (go_simp; done) | (go_simp; rfl)); intro gb311 hg w5 hbox hb; have BK311 := Aside0.mk (hbox); have GW311 := Aside0.mk ((by rw [hg]; exact (below_size HB.out) : w.heap.size ≤ gb311)); have GE311 := Aside0.mk ((by rw [hg]; exact (below_size HB.out) : w.heap.size ≤ gb311)); replace HB := Aside0.mk (below_step HB.out hb); clear hb hbox hg; have hcz6_0 : w5.cell? ⟨gb311, 0, none⟩ = some (.int .i64 a0_0) := (blk_cell BK311.out 0).trans rfl; have hcz6_1 : w5.cell? ⟨gb311, 1, none⟩ = some (.int .i64 a0_1) := (blk_cell BK311.out 1).trans rfl; have hcz6_2 : w5.cell? ⟨gb311, 2, none⟩ = some (.slice A0_2 l0_2.length c0_2) := (blk_cell BK311.out 2).trans rfl; have hfz6_0 := blk_frozen BK311.out 0; have hfz6_1 := blk_frozen BK311.out 1; have hfz6_2 := blk_frozen BK311.out 2) | ((with_reducible refine gate_callee (f := 35) rfl ?_); refine goesL_ (some 17) rfl rfl Try.func35 (by kernel_rfl) rfl #[.agg #[.int .i64 a0_0, .int .i64 a0_1, .slice A0_2 l0_2.length c0_2]] rfl (by (try simp only [List.map_toArray, List.map_cons, List.map_nil]); first | done | rfl | (simp only [List.length_drop, List.length_take]; rfl)) ?_; (with_reducible refine (watchmanlaw09_far.calls a0_0 a0_1 _ _ l0_2 true _ ?side1 ?side2 A3.out).mono ?_); (case side1 => exact (Kd.C_below HR0_2.out HB.out)); (case side2 => exact HC0_2.out); rintro e w7 ⟨rfl, hb⟩; refine ⟨_, rfl, ?_⟩; replace BK311 := bl_ BK311 hb; replace HB := Aside0.mk (below_step (by repeat (with_reducible first | exact HB.out | apply pw_below_drewN | apply below_drew1 | refine below_set ?_ GE311.out)) hb); (try clear hb); (try clear hb2); (try clear hk); (try clear hi)))
  go_ret
  exact ⟨by first | rfl | (simp [errW_none, errW_some] <;> rfl) | (simp [*, errW_none, errW_some] <;> rfl), by repeat (with_reducible first | exact HB.out | apply pw_below_drewN | apply below_drew1 | refine below_set ?_ GE311.out)⟩
 ·replace c4 := Bool.eq_false_iff.mpr c4
  subst c4
  rw [if_neg (show ¬ (false = true) by decide)] at H; try dsimp only at H
  replace H := Option.bind_eq_some_iff.mp H
  obtain ⟨⟨t313, t316⟩, A80, H⟩ := H
  try dsimp only at H
  have A8 := Aside0.mk A80
  clear A80
  replace H := Option.bind_eq_some_iff.mp H
  obtain ⟨⟨t317, t318, t319, t322⟩, A90, H⟩ := H
  try dsimp only at H
  have A9 := Aside0.mk A90
  clear A90
  have HC10 := Aside0.mk H
  clear H
  go_enter Try.func11, Try.ntmps11
  go_upto_region 5 with (first | ((with_reducible refine gate_dst (N := 2) rfl ?_); refine box_event ?hg (N := 2) ?hd (cs := #[.int .i64 a0_0, .int .i64 a0_1, .slice A0_2 l0_2.length c0_2]) (t := 24) ?hr ?_; (case hd => rfl); (case hg => rfl); (case hr => first | (go_simp; done) | (go_simp; rfl)); intro gb311 hg w11 hbox hb; have BK311 := Aside0.mk (hbox); have GW311 := Aside0.mk ((by rw [hg]; exact (below_size HB.out) : w.heap.size ≤ gb311)); have GE311 := Aside0.mk ((by rw [hg]; exact (below_size HB.out) : w.heap.size ≤ gb311)); replace HB := Aside0.mk (below_step HB.out hb); clear hb hbox hg; have hcz12_0 : w11.cell? ⟨gb311, 0, none⟩ = some (.int .i64 a0_0) := (blk_cell BK311.out 0).trans rfl; have hcz12_1 : w11.cell? ⟨gb311, 1, none⟩ = some (.int .i64 a0_1) := (blk_cell BK311.out 1).trans rfl; have hcz12_2 : w11.cell? ⟨gb311, 2, none⟩ = some (.slice A0_2 l0_2.length c0_2) := (blk_cell BK311.out 2).trans rfl; have hfz12_0 := blk_frozen BK311.out 0; have hfz12_1 := blk_frozen BK311.out 1; have hfz12_2 := blk_frozen BK311.out 2) | ((with_reducible refine gate_callee (f := 35) rfl ?_); refine goesL_ (some 17) rfl rfl Try.func35 (by kernel_rfl) rfl #[.agg #[.int .i64 a0_0, .int .i64 a0_1, .slice A0_2 l0_2.length c0_2]] rfl (by (try simp only [List.map_toArray, List.map_cons, List.map_nil]); first | done | rfl | (simp only [List.length_drop, List.length_take]; rfl)) ?_; (with_reducible refine (watchmanlaw09_far.calls a0_0 a0_1 _ _ l0_2 false _ ?side1 ?side2 A3.out).mono ?_); (case side1 => exact (Kd.C_below HR0_2.out HB.out)); (case side2 => exact HC0_2.out); rintro e w13 ⟨rfl, hb⟩; refine ⟨_, rfl, ?_⟩; replace BK311 := bl_ BK311 hb; replace HB := Aside0.mk (below_step (by repeat (with_reducible first | exact HB.out | apply pw_below_drewN | apply below_drew1 | refine below_set ?_ GE311.out)) hb); (try clear hb); (try clear hb2); (try clear hk); (try clear hi); have hcz14_0 : w13.cell? ⟨gb311, 0, none⟩ = some (.int .i64 a0_0) := (blk_cell BK311.out 0).trans rfl; have hcz14_1 : w13.cell? ⟨gb311, 1, none⟩ = some (.int .i64 a0_1) := (blk_cell BK311.out 1).trans rfl; have hcz14_2 : w13.cell? ⟨gb311, 2, none⟩ = some (.slice A0_2 l0_2.length c0_2) := (blk_cell BK311.out 2).trans rfl; have hfz14_0 := blk_frozen BK311.out 0; have hfz14_1 := blk_frozen BK311.out 1; have hfz14_2 := blk_frozen BK311.out 2) | ((with_reducible refine gate_callee (f := 37) rfl ?_); refine goesL_ (some 21) rfl rfl Try.func37 (by kernel_rfl) rfl #[.agg #[.int .i64 a0_0, .int .i64 a0_1, .slice A0_2 l0_2.length c0_2], .int .i64 a1] rfl (by (try simp only [List.map_toArray, List.map_cons, List.map_nil]); first | done | rfl | (simp only [List.length_drop, List.length_take]; rfl)) ?_; (with_reducible refine (due_Turns.calls k a0_0 a0_1 _ _ l0_2 a1 t313 t316 _ ?side1 ?side2 A8.out).mono ?_); (case side1 => exact (Kd.C_below HR0_2.out HB.out)); (case side2 => exact HC0_2.out); rintro e w15 ⟨v314, rfl, ho0, hb⟩; refine ⟨_, rfl, ?_⟩; have HO315 := Aside0.mk (Kd.R_lower ho0 (below_size (by repeat (with_reducible first | exact HB.out | apply pw_below_drewN | apply below_drew1 | refine below_set ?_ GE311.out)))); replace BK311 := bl_ BK311 hb; replace HB := Aside0.mk (below_step (by repeat (with_reducible first | exact HB.out | apply pw_below_drewN | apply below_drew1 | refine below_set ?_ GE311.out)) hb); (try clear hb); (try clear hb2); (try clear hk); (try clear hi); (try clear ho0); have hcz16_0 : w15.cell? ⟨gb311, 0, none⟩ = some (.int .i64 a0_0) := (blk_cell BK311.out 0).trans rfl; have hcz16_1 : w15.cell? ⟨gb311, 1, none⟩ = some (.int .i64 a0_1) := (blk_cell BK311.out 1).trans rfl; have hcz16_2 : w15.cell? ⟨gb311, 2, none⟩ = some (.slice A0_2 l0_2.length c0_2) := (blk_cell BK311.out 2).trans rfl; have hfz16_0 := blk_frozen BK311.out 0; have hfz16_1 := blk_frozen BK311.out 1; have hfz16_2 := blk_frozen BK311.out 2) | ((with_reducible refine gate_callee (f := 19) rfl ?_); refine goesL_ (some 27) rfl rfl Try.func19 (by kernel_rfl) rfl #[.agg #[.int .i64 a0_0, .int .i64 a0_1, .slice A0_2 l0_2.length c0_2], .int .i64 a1] rfl (by (try simp only [List.map_toArray, List.map_cons, List.map_nil]); first | done | rfl | (simp only [List.length_drop, List.length_take]; rfl)) ?_; (with_reducible refine (board_Pass.calls k a0_0 a0_1 _ _ l0_2 a1 t317 t318 t319 t322 _ ?side1 ?side2 A9.out).mono ?_); (case side1 => exact (Kd.C_below HR0_2.out HB.out)); (case side2 => exact HC0_2.out); rintro e w17 ⟨v320, rfl, ho0, hb⟩; refine ⟨_, rfl, ?_⟩; replace HO315 := rb_ HO315 hb; have HO321 := Aside0.mk (Kd.R_lower ho0 (below_size (by repeat (with_reducible first | exact HB.out | apply pw_below_drewN | apply below_drew1 | refine below_set ?_ GE311.out)))); replace BK311 := bl_ BK311 hb; replace HB := Aside0.mk (below_step (by repeat (with_reducible first | exact HB.out | apply pw_below_drewN | apply below_drew1 | refine below_set ?_ GE311.out)) hb); (try clear hb); (try clear hb2); (try clear hk); (try clear hi); (try clear ho0)) | ((with_reducible refine gate_dst (N := 7) rfl ?_); refine box_event ?hg (N := 7) ?hd (cs := #[.int .i64 0, .int .i64 0, .slice none 0 0]) (t := 24) ?hr ?_; (case hd => rfl); (case hg => rfl); (case hr => first | (go_simp; done) | (go_simp; rfl)); intro gb323 hg w18 hbox hb; replace HO315 := rb_ HO315 hb; replace HO321 := rb_ HO321 hb; have BK323 := Aside0.mk (hbox); have GW323 := Aside0.mk ((by rw [hg]; exact (below_size (by repeat (with_reducible first | exact HB.out | apply pw_below_drewN | apply below_drew1 | refine below_set ?_ GE311.out))) : w.heap.size ≤ gb323)); have GE323 := Aside0.mk ((by rw [hg]; exact (below_size (by repeat (with_reducible first | exact HB.out | apply pw_below_drewN | apply below_drew1 | refine below_set ?_ GE311.out))) : w.heap.size ≤ gb323)); replace HB := Aside0.mk (below_step (by repeat (with_reducible first | exact HB.out | apply pw_below_drewN | apply below_drew1 | refine below_set ?_ GE311.out)) hb); have NB311_323 := Aside0.mk ((by rw [hg]; exact Nat.ne_of_lt (blk_lt BK311.out) : gb311 ≠ gb323)); have NB323_311 := Aside0.mk ((by rw [hg]; exact Nat.ne_of_gt (blk_lt BK311.out) : gb323 ≠ gb311)); replace BK311 := bl_ BK311 hb; clear hb hbox hg; have hnb19 := NB323_311.out; have hnc19 := NB311_323.out; have hcz20_0 : w18.cell? ⟨gb323, 0, none⟩ = some (.int .i64 0) := (blk_cell BK323.out 0).trans rfl; have hcz20_1 : w18.cell? ⟨gb323, 1, none⟩ = some (.int .i64 0) := (blk_cell BK323.out 1).trans rfl; have hcz20_2 : w18.cell? ⟨gb323, 2, none⟩ = some (.slice none 0 0) := (blk_cell BK323.out 2).trans rfl; have hfz20_0 := blk_frozen BK323.out 0; have hfz20_1 := blk_frozen BK323.out 1; have hfz20_2 := blk_frozen BK323.out 2; obtain ⟨Ao21, co21, eo21⟩ := Kd.R_slice HO321.out; subst eo21))
  (try simp only [Act.put, List.setIfInBounds_toArray, List.set_cons_zero, List.set_cons_succ])
  go_cut [35] (fun v35 wc => ∃ (kq : Nat) (x35_9 : Bool), v35 = .bool x35_9 ∧ Aside0 (watchmanlaw09_DuePass.j0 kq a1 t313 t316 t322 x35_9 a0_0 a0_1 l0_2 t317 t318 t319 = some r) ∧ Aside0 (kq ≤ k) ∧ Aside0 (Kd.R k65 65 wc w.heap.size (fun _ => True) v314 t313) ∧ Aside0 (Kd.R k28 28 wc w.heap.size (fun _ => True) (.slice Ao21 t319.length co21) t319) ∧ Aside0 (wc.heap[gb311]? = some (.cells #[.int .i64 a0_0, .int .i64 a0_1, (.slice A0_2 l0_2.length c0_2)] 24 (0, 0))) ∧ Aside0 (wc.heap[gb323]? = some (.cells #[.int .i64 t317, .int .i64 t318, (.slice Ao21 t319.length co21)] 24 (0, 0))) ∧ Aside0 (Below w.heap.size w wc))
  case first =>
   have H := HC10.out
   clear HC10
   by_cases c22 : t316 = 0
   ·rw [if_pos c22] at H
    have c22b0 : (t316 == 0) = true := beq_iff_eq.mpr c22
    have c22b1 : (t316 != 0) = false := bne_eq_false_iff_eq.mpr c22
    clear c22
    (first | rw [c22b0] | (simp only [i64_w, i32_w]; rw [c22b0]) | skip)
    have H' := Aside0.mk H
    clear H
    go_wp2
    go_meet
    case rel => exact ⟨_, ((t322 != 0)), (by first | rfl | (simp; done) | (simp [*]; done)), H', ⟨by first | omega | exact Nat.le_refl _⟩, ⟨by (with_reducible repeat (first | apply Kd.R_alloc | apply Kd.R_drewN | apply Kd.R_drew)); exact Kd.R_mono (rf3 (Kd.R_types HO315.out BK323.out (by decide)) (fun _ hk => hk.2) (.int .i64 t317) (.int .i64 t318) (.slice Ao21 t319.length co21)) (fun _ hk => trivial)⟩, ⟨by (with_reducible repeat (first | apply Kd.R_alloc | apply Kd.R_drewN | apply Kd.R_drew)); exact Kd.R_mono (rf3 (Kd.R_types HO321.out BK323.out (by decide)) (fun _ hk => hk.2) (.int .i64 t317) (.int .i64 t318) (.slice Ao21 t319.length co21)) (fun _ hk => trivial)⟩, ⟨by (with_reducible repeat (first | refine blk_drewN ?_ _ | refine blk_drew ?_ | refine blk_alloc ?_ _)); refine blk_far ?_ NB311_323.out _; (with_reducible repeat (first | refine blk_drewN ?_ _ | refine blk_drew ?_ | refine blk_alloc ?_ _)); refine blk_far ?_ NB311_323.out _; (with_reducible repeat (first | refine blk_drewN ?_ _ | refine blk_drew ?_ | refine blk_alloc ?_ _)); refine blk_far ?_ NB311_323.out _; (with_reducible repeat (first | refine blk_drewN ?_ _ | refine blk_drew ?_ | refine blk_alloc ?_ _)); exact BK311.out⟩, ⟨by (with_reducible repeat (first | refine blk_drewN ?_ _ | refine blk_drew ?_ | refine blk_alloc ?_ _)); refine blk_put (cs := #[.int .i64 t317, .int .i64 t318, .slice none 0 0]) ?_ 2 _ rfl; (with_reducible repeat (first | refine blk_drewN ?_ _ | refine blk_drew ?_ | refine blk_alloc ?_ _)); refine blk_put (cs := #[.int .i64 t317, .int .i64 0, .slice none 0 0]) ?_ 1 _ rfl; (with_reducible repeat (first | refine blk_drewN ?_ _ | refine blk_drew ?_ | refine blk_alloc ?_ _)); refine blk_put (cs := #[.int .i64 0, .int .i64 0, .slice none 0 0]) ?_ 0 _ rfl; (with_reducible repeat (first | refine blk_drewN ?_ _ | refine blk_drew ?_ | refine blk_alloc ?_ _)); exact BK323.out⟩, ⟨by repeat (with_reducible first | exact HB.out | apply pw_below_drewN | apply below_drew1 | refine below_set ?_ (Aside0.out (by assumption)))⟩⟩
   ·rw [if_neg c22] at H
    have c22b0 : (t316 == 0) = false := beq_eq_false_iff_ne.mpr c22
    have c22b1 : (t316 != 0) = true := bne_iff_ne.mpr c22
    (first | rw [c22b0] | (simp only [i64_w, i32_w]; rw [c22b0]) | skip)
    have H' := Aside0.mk H
    clear H
    go_wp2
    go_meet
    case rel => exact ⟨_, (true), (by first | rfl | (simp; done) | (simp [*]; done)), H', ⟨by first | omega | exact Nat.le_refl _⟩, ⟨by (with_reducible repeat (first | apply Kd.R_alloc | apply Kd.R_drewN | apply Kd.R_drew)); exact Kd.R_mono (rf3 (Kd.R_types HO315.out BK323.out (by decide)) (fun _ hk => hk.2) (.int .i64 t317) (.int .i64 t318) (.slice Ao21 t319.length co21)) (fun _ hk => trivial)⟩, ⟨by (with_reducible repeat (first | apply Kd.R_alloc | apply Kd.R_drewN | apply Kd.R_drew)); exact Kd.R_mono (rf3 (Kd.R_types HO321.out BK323.out (by decide)) (fun _ hk => hk.2) (.int .i64 t317) (.int .i64 t318) (.slice Ao21 t319.length co21)) (fun _ hk => trivial)⟩, ⟨by (with_reducible repeat (first | refine blk_drewN ?_ _ | refine blk_drew ?_ | refine blk_alloc ?_ _)); refine blk_far ?_ NB311_323.out _; (with_reducible repeat (first | refine blk_drewN ?_ _ | refine blk_drew ?_ | refine blk_alloc ?_ _)); refine blk_far ?_ NB311_323.out _; (with_reducible repeat (first | refine blk_drewN ?_ _ | refine blk_drew ?_ | refine blk_alloc ?_ _)); refine blk_far ?_ NB311_323.out _; (with_reducible repeat (first | refine blk_drewN ?_ _ | refine blk_drew ?_ | refine blk_alloc ?_ _)); exact BK311.out⟩, ⟨by (with_reducible repeat (first | refine blk_drewN ?_ _ | refine blk_drew ?_ | refine blk_alloc ?_ _)); refine blk_put (cs := #[.int .i64 t317, .int .i64 t318, .slice none 0 0]) ?_ 2 _ rfl; (with_reducible repeat (first | refine blk_drewN ?_ _ | refine blk_drew ?_ | refine blk_alloc ?_ _)); refine blk_put (cs := #[.int .i64 t317, .int .i64 0, .slice none 0 0]) ?_ 1 _ rfl; (with_reducible repeat (first | refine blk_drewN ?_ _ | refine blk_drew ?_ | refine blk_alloc ?_ _)); refine blk_put (cs := #[.int .i64 0, .int .i64 0, .slice none 0 0]) ?_ 0 _ rfl; (with_reducible repeat (first | refine blk_drewN ?_ _ | refine blk_drew ?_ | refine blk_alloc ?_ _)); exact BK323.out⟩, ⟨by repeat (with_reducible first | exact HB.out | apply pw_below_drewN | apply below_drew1 | refine below_set ?_ (Aside0.out (by assumption)))⟩⟩
  case rest =>
   clear HC10
   try clear c1; try clear c2; try clear p2; try clear c3; try clear c4; try clear c11; try clear c19; try clear c22; try clear c22b0; try clear c22b1; try clear hcz12_0; try clear hcz12_1; try clear hcz12_2; try clear hcz14_0; try clear hcz14_1; try clear hcz14_2; try clear hcz16_0; try clear hcz16_1; try clear hcz16_2; try clear hcz20_0; try clear hcz20_1; try clear hcz20_2; try clear hcz6_0; try clear hcz6_1; try clear hcz6_2; try clear hfz12_0; try clear hfz12_1; try clear hfz12_2; try clear hfz14_0; try clear hfz14_1; try clear hfz14_2; try clear hfz16_0; try clear hfz16_1; try clear hfz16_2; try clear hfz20_0; try clear hfz20_1; try clear hfz20_2; try clear hfz6_0; try clear hfz6_1; try clear hfz6_2
   obtain ⟨kq, x35_9, rfl, HA, HJ9, HO_5, HO_324002, BK311, BK323, HB⟩ := hcut
   cases kq with
   | zero => exact absurd HA.out (by simp [watchmanlaw09_DuePass.j0])
   | succ kj9 =>
    have H := HA.out
    clear HA
    simp only [watchmanlaw09_DuePass.j0] at H
    by_cases c23 : x35_9 = true
    ·subst c23
     rw [if_pos rfl] at H; try dsimp only at H
     replace H := Option.bind_eq_some_iff.mp H
     obtain ⟨t324, A240, H⟩ := H
     try dsimp only at H
     have A24 := Aside0.mk A240
     clear A240
     by_cases c25 : t324 = true
     ·subst c25
      rw [if_pos rfl] at H; try dsimp only at H
      by_cases c26 : t316 = 0
      ·rw [if_pos c26] at H
       have c26b0 : (t316 == 0) = true := beq_iff_eq.mpr c26
       have c26b1 : (t316 != 0) = false := bne_eq_false_iff_eq.mpr c26
       clear c26
       obtain rfl := Option.some.inj H
       go_wp2_with (first | ((with_reducible refine gate_callee (f := 46) rfl ?_); refine goesL_ (some 36) rfl rfl Try.func46 (by kernel_rfl) rfl #[] rfl (by (try simp only [List.map_toArray, List.map_cons, List.map_nil]); first | done | rfl | (simp only [List.length_drop, List.length_take]; rfl)) ?_; (with_reducible refine (watchmanlaw09_coming.calls  true _ A24.out).mono ?_); rintro e w27 ⟨rfl, hb⟩; refine ⟨_, rfl, ?_⟩; replace HO_5 := rb_ HO_5 hb; replace HO_324002 := rb_ HO_324002 hb; replace BK311 := bl_ BK311 hb; replace BK323 := bl_ BK323 hb; replace HB := Aside0.mk (below_step (by repeat (with_reducible first | exact HB.out | apply pw_below_drewN | apply below_drew1 | refine below_set ?_ (Aside0.out (by assumption)))) hb); (try clear hb); (try clear hb2); (try clear hk); (try clear hi)))
       go_ret
       exact ⟨by first | rfl | (simp [errW_none, errW_some] <;> rfl) | (simp [*, errW_none, errW_some] <;> rfl), by repeat (with_reducible first | exact HB.out | apply pw_below_drewN | apply below_drew1 | refine below_set ?_ (Aside0.out (by assumption)))⟩
      ·rw [if_neg c26] at H
       have c26b0 : (t316 == 0) = false := beq_eq_false_iff_ne.mpr c26
       have c26b1 : (t316 != 0) = true := bne_iff_ne.mpr c26
       obtain rfl := Option.some.inj H
       go_wp2_with (first | ((with_reducible refine gate_callee (f := 46) rfl ?_); refine goesL_ (some 36) rfl rfl Try.func46 (by kernel_rfl) rfl #[] rfl (by (try simp only [List.map_toArray, List.map_cons, List.map_nil]); first | done | rfl | (simp only [List.length_drop, List.length_take]; rfl)) ?_; (with_reducible refine (watchmanlaw09_coming.calls  true _ A24.out).mono ?_); rintro e w28 ⟨rfl, hb⟩; refine ⟨_, rfl, ?_⟩; replace HO_5 := rb_ HO_5 hb; replace HO_324002 := rb_ HO_324002 hb; replace BK311 := bl_ BK311 hb; replace BK323 := bl_ BK323 hb; replace HB := Aside0.mk (below_step (by repeat (with_reducible first | exact HB.out | apply pw_below_drewN | apply below_drew1 | refine below_set ?_ (Aside0.out (by assumption)))) hb); (try clear hb); (try clear hb2); (try clear hk); (try clear hi)))
       go_ret
       exact ⟨by first | rfl | (simp [errW_none, errW_some] <;> rfl) | (simp [*, errW_none, errW_some] <;> rfl), by repeat (with_reducible first | exact HB.out | apply pw_below_drewN | apply below_drew1 | refine below_set ?_ (Aside0.out (by assumption)))⟩
     ·replace c25 := Bool.eq_false_iff.mpr c25
      subst c25
      rw [if_neg (show ¬ (false = true) by decide)] at H; try dsimp only at H
      exact absurd H (by simp)
    ·replace c23 := Bool.eq_false_iff.mpr c23
     subst c23
     rw [if_neg (show ¬ (false = true) by decide)] at H; try dsimp only at H
     have H' := Aside0.mk H
     clear H
     go_wp2
     go_loopg [9] kj9 (fun kq v9 w' => ∃ (x9_2 : Int), v9 = .int .i64 x9_2 ∧ Aside0 (watchmanlaw09_DuePass.l0 kq a1 t313 x9_2 a0_0 a0_1 l0_2 t317 t318 t319 = some r) ∧ Aside0 (kq ≤ kj9) ∧ Aside0 (Kd.R k65 65 w' w.heap.size (fun _ => True) v314 t313) ∧ Aside0 (Kd.R k28 28 w' w.heap.size (fun _ => True) (.slice Ao21 t319.length co21) t319) ∧ Aside0 (w'.heap[gb311]? = some (.cells #[.int .i64 a0_0, .int .i64 a0_1, (.slice A0_2 l0_2.length c0_2)] 24 (0, 0))) ∧ Aside0 (w'.heap[gb323]? = some (.cells #[.int .i64 t317, .int .i64 t318, (.slice Ao21 t319.length co21)] 24 (0, 0))) ∧ Aside0 (Below w.heap.size w w'))
     case atStart => exact ⟨(0), (by first | rfl | (simp; done) | (simp [*]; done)), H', ⟨Nat.le_refl _⟩, ⟨by (with_reducible repeat (first | apply Kd.R_alloc | apply Kd.R_drewN | apply Kd.R_drew)); exact HO_5.out⟩, ⟨by (with_reducible repeat (first | apply Kd.R_alloc | apply Kd.R_drewN | apply Kd.R_drew)); exact HO_324002.out⟩, ⟨by (with_reducible repeat (first | refine blk_drewN ?_ _ | refine blk_drew ?_ | refine blk_alloc ?_ _)); exact BK311.out⟩, ⟨by (with_reducible repeat (first | refine blk_drewN ?_ _ | refine blk_drew ?_ | refine blk_alloc ?_ _)); exact BK323.out⟩, ⟨by repeat (with_reducible first | exact HB.out | apply pw_below_drewN | apply below_drew1 | refine below_set ?_ (Aside0.out (by assumption)))⟩⟩
     case round =>
      clear H'
      try clear c1; try clear c2; try clear p2; try clear c3; try clear c4; try clear c11; try clear c19; try clear c22; try clear c22b0; try clear c22b1; try clear c23; try clear c25; try clear c26; try clear c26b0; try clear c26b1; try clear hcz12_0; try clear hcz12_1; try clear hcz12_2; try clear hcz14_0; try clear hcz14_1; try clear hcz14_2; try clear hcz16_0; try clear hcz16_1; try clear hcz16_2; try clear hcz20_0; try clear hcz20_1; try clear hcz20_2; try clear hcz6_0; try clear hcz6_1; try clear hcz6_2; try clear hfz12_0; try clear hfz12_1; try clear hfz12_2; try clear hfz14_0; try clear hfz14_1; try clear hfz14_2; try clear hfz16_0; try clear hfz16_1; try clear hfz16_2; try clear hfz20_0; try clear hfz20_1; try clear hfz20_2; try clear hfz6_0; try clear hfz6_1; try clear hfz6_2; try clear p2
      obtain ⟨x9_2, rfl, HA, HK2, HO_5, HO_324002, BK311, BK323, HB⟩ := hrel
      cases gk with
      | zero => exact absurd HA.out (by simp [watchmanlaw09_DuePass.l0])
      | succ k2 =>
       have H := HA.out
       clear HA
       simp only [watchmanlaw09_DuePass.l0] at H
       by_cases c29 : x9_2 < (l0_2.length : Int)
       ·rw [if_pos c29] at H
        have c29b0 : decide (x9_2 < (l0_2.length : Int)) = true := decide_eq_true c29
        clear c29
        by_cases c30 : 0 ≤ x9_2
        ·rw [if_pos c30] at H
         have c30b0 : decide (0 ≤ x9_2) = true := decide_eq_true c30
         clear c30
         have H' := Aside0.mk H
         clear H
         have hnb31 := NB311_323.out
         have hnc31 := NB323_311.out
         have hcz32_0 : wr.cell? ⟨gb311, 0, none⟩ = some (.int .i64 a0_0) := (blk_cell BK311.out 0).trans rfl
         have hcz32_1 : wr.cell? ⟨gb311, 1, none⟩ = some (.int .i64 a0_1) := (blk_cell BK311.out 1).trans rfl
         have hcz32_2 : wr.cell? ⟨gb311, 2, none⟩ = some (.slice A0_2 l0_2.length c0_2) := (blk_cell BK311.out 2).trans rfl
         have hfz32_0 := blk_frozen BK311.out 0
         have hfz32_1 := blk_frozen BK311.out 1
         have hfz32_2 := blk_frozen BK311.out 2
         have p326 : 0 ≤ (x9_2 : Int) := of_decide_eq_true (by first | (with_reducible assumption) | assumption)
         have q326 : x9_2 < (l0_2.length : Int) := of_decide_eq_true (by first | (with_reducible assumption) | assumption)
         obtain ⟨ad326, e326, hx326_0, hx326_1, hx326_2, hx326_3, hx326_4, hx326_5⟩ := at_T28 HR0_2.out x9_2 p326 q326
         cases e326
         replace hx326_0 := (HB.out.cell (World.block_lt_of_cell? w _ hx326_0)).trans hx326_0
         replace hx326_1 := (HB.out.cell (World.block_lt_of_cell? w _ hx326_1)).trans hx326_1
         replace hx326_2 := (HB.out.cell (World.block_lt_of_cell? w _ hx326_2)).trans hx326_2
         replace hx326_3 := (HB.out.cell (World.block_lt_of_cell? w _ hx326_3)).trans hx326_3
         replace hx326_4 := (HB.out.cell (World.block_lt_of_cell? w _ hx326_4)).trans hx326_4
         replace hx326_5 := (HB.out.cell (World.block_lt_of_cell? w _ hx326_5)).trans hx326_5
         replace p326 := eq_true p326
         replace q326 := eq_true q326
         go_wp2
         go_loopg [10, 11] k2 (fun kq v10 v11 w' => ∃ (x10_3 : Int) (x11_3 : Int), v10 = .int .i64 x10_3 ∧ v11 = .int .i64 x11_3 ∧ Aside0 (watchmanlaw09_DuePass.l1 kq a1 t313 x9_2 x10_3 x11_3 a0_0 a0_1 l0_2 t317 t318 t319 = some r) ∧ Aside0 (kq ≤ k2) ∧ Aside0 (Kd.R k65 65 w' w.heap.size (fun _ => True) v314 t313) ∧ Aside0 (Kd.R k28 28 w' w.heap.size (fun _ => True) (.slice Ao21 t319.length co21) t319) ∧ Aside0 (w'.heap[gb311]? = some (.cells #[.int .i64 a0_0, .int .i64 a0_1, (.slice (some ad326) l0_2.length c0_2)] 24 (0, 0))) ∧ Aside0 (w'.heap[gb323]? = some (.cells #[.int .i64 t317, .int .i64 t318, (.slice Ao21 t319.length co21)] 24 (0, 0))) ∧ Aside0 (Below w.heap.size w w'))
         case atStart => exact ⟨((rd_T28 l0_2 x9_2).f1), (0), (by first | rfl | (simp; done) | (simp [*]; done)), (by first | rfl | (simp; done) | (simp [*]; done)), H', ⟨Nat.le_refl _⟩, ⟨by (with_reducible repeat (first | apply Kd.R_alloc | apply Kd.R_drewN | apply Kd.R_drew)); exact HO_5.out⟩, ⟨by (with_reducible repeat (first | apply Kd.R_alloc | apply Kd.R_drewN | apply Kd.R_drew)); exact HO_324002.out⟩, ⟨by (with_reducible repeat (first | refine blk_drewN ?_ _ | refine blk_drew ?_ | refine blk_alloc ?_ _)); exact BK311.out⟩, ⟨by (with_reducible repeat (first | refine blk_drewN ?_ _ | refine blk_drew ?_ | refine blk_alloc ?_ _)); exact BK323.out⟩, ⟨by repeat (with_reducible first | exact HB.out | apply pw_below_drewN | apply below_drew1 | refine below_set ?_ (Aside0.out (by assumption)))⟩⟩
         case round =>
          clear H'
          try clear c1; try clear c2; try clear p2; try clear c3; try clear p3; try clear q3; try clear hx3; try clear c4; try clear c11; try clear c19; try clear c22; try clear c22b0; try clear c22b1; try clear c23; try clear c25; try clear c26; try clear c26b0; try clear c26b1; try clear c29; try clear c29b0; try clear c30; try clear c30b0; try clear c31; try clear p32; try clear q32; try clear hx32; try clear hcz12_0; try clear hcz12_1; try clear hcz12_2; try clear hcz14_0; try clear hcz14_1; try clear hcz14_2; try clear hcz16_0; try clear hcz16_1; try clear hcz16_2; try clear hcz20_0; try clear hcz20_1; try clear hcz20_2; try clear hcz32_0; try clear hcz32_1; try clear hcz32_2; try clear hcz6_0; try clear hcz6_1; try clear hcz6_2; try clear hfz12_0; try clear hfz12_1; try clear hfz12_2; try clear hfz14_0; try clear hfz14_1; try clear hfz14_2; try clear hfz16_0; try clear hfz16_1; try clear hfz16_2; try clear hfz20_0; try clear hfz20_1; try clear hfz20_2; try clear hfz32_0; try clear hfz32_1; try clear hfz32_2; try clear hfz6_0; try clear hfz6_1; try clear hfz6_2; try clear hx326_0; try clear hx326_1; try clear hx326_2; try clear hx326_3; try clear hx326_4; try clear hx326_5; try clear p2; try clear p326; try clear q326
          obtain ⟨x10_3, x11_3, rfl, rfl, HA, HK3, HO_5, HO_324002, BK311, BK323, HB⟩ := hrel
          cases gk with
          | zero => exact absurd HA.out (by simp [watchmanlaw09_DuePass.l1])
          | succ k3 =>
           have H := HA.out
           clear HA
           simp only [watchmanlaw09_DuePass.l1] at H
           by_cases c33 : x11_3 < (t313.length : Int)
           ·rw [if_pos c33] at H
            have c33b0 : decide (x11_3 < (t313.length : Int)) = true := decide_eq_true c33
            clear c33
            by_cases c34 : 0 ≤ x11_3
            ·rw [if_pos c34] at H
             have c34b0 : decide (0 ≤ x11_3) = true := decide_eq_true c34
             clear c34
             by_cases c35 : 0 ≤ x9_2
             ·rw [if_pos c35] at H
              have c35b0 : decide (0 ≤ x9_2) = true := decide_eq_true c35
              clear c35
              by_cases c36 : x9_2 < (l0_2.length : Int)
              ·rw [if_pos c36] at H
               have c36b0 : decide (x9_2 < (l0_2.length : Int)) = true := decide_eq_true c36
               clear c36
               by_cases c37 : (((rd_T65 t313 x11_3).f1.f0) == ((rd_T28 l0_2 x9_2).f0.f0) && (((rd_T65 t313 x11_3).f1.f1) == ((rd_T28 l0_2 x9_2).f0.f1))) = true
               ·rw [if_pos c37] at H
                have c37b0 : (((rd_T65 t313 x11_3).f1.f0) == ((rd_T28 l0_2 x9_2).f0.f0) && (((rd_T65 t313 x11_3).f1.f1) == ((rd_T28 l0_2 x9_2).f0.f1))) = true := c37
                (try (have c37b1 : decide (((rd_T65 t313 x11_3).f1.f0) = ((rd_T28 l0_2 x9_2).f0.f0) && (((rd_T65 t313 x11_3).f1.f1) == ((rd_T28 l0_2 x9_2).f0.f1))) = true := by simpa using c37))
                (try (have c37b2 : (((rd_T65 t313 x11_3).f1.f0) == ((rd_T28 l0_2 x9_2).f0.f0) && (((rd_T65 t313 x11_3).f1.f1) == ((rd_T28 l0_2 x9_2).f0.f1))) = true := by simpa using c37))
                clear c37
                have H' := Aside0.mk H
                clear H
                obtain ⟨Ao38, co38, eo38⟩ := Kd.R_slice HO_5.out
                subst eo38
                try go_wp2
                replace HO_5 := Aside0.mk (Kd.R_drew HO_5.out)
                replace HO_324002 := Aside0.mk (Kd.R_drew HO_324002.out)
                replace BK311 := Aside0.mk (blk_drew BK311.out)
                replace BK323 := Aside0.mk (blk_drew BK323.out)
                replace HB := Aside0.mk (below_drew1 HB.out)
                have p327 : 0 ≤ (x11_3 : Int) := of_decide_eq_true (by first | (with_reducible assumption) | assumption)
                have q327 : x11_3 < (t313.length : Int) := of_decide_eq_true (by first | (with_reducible assumption) | assumption)
                obtain ⟨ad327, e327, hx327_0, hx327_1, hx327_2, hx327_3⟩ := at_T65 (Kd.R_reads' HO_5.out).2.2 x11_3 p327 q327
                cases e327
                replace p327 := eq_true p327
                replace q327 := eq_true q327
                have p328 : 0 ≤ (x9_2 : Int) := of_decide_eq_true (by first | (with_reducible assumption) | assumption)
                have q328 : x9_2 < (l0_2.length : Int) := of_decide_eq_true (by first | (with_reducible assumption) | assumption)
                obtain ⟨ad328, e328, hx328_0, hx328_1, hx328_2, hx328_3, hx328_4, hx328_5⟩ := at_T28 HR0_2.out x9_2 p328 q328
                have hw328_5 := hx328_5
                have hw328_4 := hx328_4
                have hw328_3 := hx328_3
                have hw328_2 := hx328_2
                have hw328_1 := hx328_1
                have hw328_0 := hx328_0
                obtain rfl : ad326 = ad328 := (by injection e328)
                replace hx328_0 := (HB.out.cell (World.block_lt_of_cell? w _ hx328_0)).trans hx328_0
                replace hx328_1 := (HB.out.cell (World.block_lt_of_cell? w _ hx328_1)).trans hx328_1
                replace hx328_2 := (HB.out.cell (World.block_lt_of_cell? w _ hx328_2)).trans hx328_2
                replace hx328_3 := (HB.out.cell (World.block_lt_of_cell? w _ hx328_3)).trans hx328_3
                replace hx328_4 := (HB.out.cell (World.block_lt_of_cell? w _ hx328_4)).trans hx328_4
                replace hx328_5 := (HB.out.cell (World.block_lt_of_cell? w _ hx328_5)).trans hx328_5
                replace p328 := eq_true p328
                replace q328 := eq_true q328
                refine start_ (n := 12) (S := fun w' => w'.cell? ⟨gb311, 0, none⟩ = some (.int .i64 a0_0) ∧ w'.cell? ⟨gb311, 1, none⟩ = some (.int .i64 a0_1) ∧ w'.cell? ⟨gb311, 2, none⟩ = some (.slice (some ad326) l0_2.length c0_2) ∧ w'.cell? (ad327.add ((x11_3).toNat * 4)) = some (.int .i64 ((rd_T65 t313 x11_3).f0)) ∧ w'.cell? ⟨(ad327.add ((x11_3).toNat * 4)).block, (ad327.add ((x11_3).toNat * 4)).off + 1, none⟩ = some (.int .i64 ((rd_T65 t313 x11_3).f1.f0)) ∧ w'.cell? ⟨(ad327.add ((x11_3).toNat * 4)).block, (ad327.add ((x11_3).toNat * 4)).off + 2, none⟩ = some (.int .i64 ((rd_T65 t313 x11_3).f1.f1)) ∧ w'.cell? ⟨(ad327.add ((x11_3).toNat * 4)).block, (ad327.add ((x11_3).toNat * 4)).off + 3, none⟩ = some (.int .i64 ((rd_T65 t313 x11_3).f2)) ∧ w'.cell? (ad326.add ((x9_2).toNat * 6)) = some (.int .i64 ((rd_T28 l0_2 x9_2).f0.f0)) ∧ w'.cell? ⟨(ad326.add ((x9_2).toNat * 6)).block, (ad326.add ((x9_2).toNat * 6)).off + 1, none⟩ = some (.int .i64 ((rd_T28 l0_2 x9_2).f0.f1)) ∧ w'.cell? ⟨(ad326.add ((x9_2).toNat * 6)).block, (ad326.add ((x9_2).toNat * 6)).off + 2, none⟩ = some (.int .i64 ((rd_T28 l0_2 x9_2).f1)) ∧ w'.cell? ⟨(ad326.add ((x9_2).toNat * 6)).block, (ad326.add ((x9_2).toNat * 6)).off + 3, none⟩ = some (.int .i64 ((rd_T28 l0_2 x9_2).f2)) ∧ w'.cell? ⟨(ad326.add ((x9_2).toNat * 6)).block, (ad326.add ((x9_2).toNat * 6)).off + 4, none⟩ = some (.int .i64 ((rd_T28 l0_2 x9_2).f3)) ∧ w'.cell? ⟨(ad326.add ((x9_2).toNat * 6)).block, (ad326.add ((x9_2).toNat * 6)).off + 5, none⟩ = some (.int .i64 ((rd_T28 l0_2 x9_2).f4))) (ds := []) #[false, false, false, false, false, false, false, false, false, false, false, false] (by kernel_rfl) rfl rfl ⟨(blk_cell BK311.out 0).trans rfl, (blk_cell BK311.out 1).trans rfl, (blk_cell BK311.out 2).trans rfl, hx327_0, hx327_1, hx327_2, hx327_3, ((HB.out.cell (World.block_lt_of_cell? w _ hw328_0)).trans hw328_0), ((HB.out.cell (World.block_lt_of_cell? w _ hw328_1)).trans hw328_1), ((HB.out.cell (World.block_lt_of_cell? w _ hw328_2)).trans hw328_2), ((HB.out.cell (World.block_lt_of_cell? w _ hw328_3)).trans hw328_3), ((HB.out.cell (World.block_lt_of_cell? w _ hw328_4)).trans hw328_4), ((HB.out.cell (World.block_lt_of_cell? w _ hw328_5)).trans hw328_5)⟩ (fun hHeld => ?_); refine with_tabW watchmanlaw09_DuePass.tab14 watchmanlaw09_DuePass.bits14 (fun HT_ HW_ => ?_)
                generalize wr.drew = w39 at HO_5 HO_324002 BK311 BK323 HB hx327_0 hx327_1 hx327_2 hx327_3 hx328_0 hx328_1 hx328_2 hx328_3 hx328_4 hx328_5 hHeld ⊢
                have Q_ := Qs.mk (n := 12) [(0, 0, 64, 1), (0, 1, 65, 3), (0, 2, 66, 7), (0, 3, 67, 15), (0, 5, 69, 47), (0, 7, 71, 175), (2, 4, 68, 191), (2, 6, 70, 255), (0, 8, 72, 511), (0, 9, 73, 1023), (2, 10, 74, 2047), (0, 11, 75, 4095)]
                iterate 12 (first | (obtain ⟨q_, Q_⟩ := Qs.p Q_; refine pureQ_ q_ (v := ?_) (a' := ?_) rfl rfl (any_of HT_.out (by kernel_rfl)) (fun _ _ _ h => h) (Or.inl ⟨by rfl, ?_⟩) ?_ ?_; rotate_left; (intro w'; go_simp; with_reducible rfl); rotate_left; (simp only [Act.put, List.setIfInBounds_toArray, List.set_cons_zero, List.set_cons_succ, i64_w, i32_w]; rfl)) | (obtain ⟨q_, Q_⟩ := Qs.t Q_; refine takeQ_ q_ (v := ?_) (a' := ?_) rfl rfl (take_ofW HT_.out HW_.out (by kernel_rfl)) (fun _ _ _ h => h) (Or.inl ⟨by rfl, ?_⟩) hHeld ?_ ?_; rotate_left; (rintro w' ⟨s0, s1, s2, s3, s4, s5, s6, s7, s8, s9, s10, s11, s12⟩; go_simp; with_reducible rfl); rotate_left; (simp only [Act.put, List.setIfInBounds_toArray, List.set_cons_zero, List.set_cons_succ, i64_w, i32_w]; rfl)))
                clear Q_
                refine done_ (done_of HT_.out (by kernel_rfl)) ?_
                have p329 : 0 ≤ (x11_3 : Int) := of_decide_eq_true (by first | (with_reducible assumption) | assumption)
                have q329 : x11_3 < (t313.length : Int) := of_decide_eq_true (by first | (with_reducible assumption) | assumption)
                obtain ⟨ad329, e329, hx329_0, hx329_1, hx329_2, hx329_3⟩ := at_T65 (Kd.R_reads' HO_5.out).2.2 x11_3 p329 q329
                obtain rfl : ad327 = ad329 := (by injection e329)
                replace p329 := eq_true p329
                replace q329 := eq_true q329
                try go_wp2
                go_roundg k3
                case measure => have := HJ9.out; have := HK2.out; have := HK3.out; omega
                case rel => exact ⟨((rd_T65 t313 x11_3).f2), (wrap64 (x11_3 + 1)), (by first | rfl | (simp; done) | (simp [*]; done)), (by first | rfl | (simp; done) | (simp [*]; done)), H', ⟨by have := HJ9.out; have := HK2.out; have := HK3.out; omega⟩, ⟨by (with_reducible repeat (first | apply Kd.R_alloc | apply Kd.R_drewN | apply Kd.R_drew)); exact HO_5.out⟩, ⟨by (with_reducible repeat (first | apply Kd.R_alloc | apply Kd.R_drewN | apply Kd.R_drew)); exact HO_324002.out⟩, ⟨by (with_reducible repeat (first | refine blk_drewN ?_ _ | refine blk_drew ?_ | refine blk_alloc ?_ _)); exact BK311.out⟩, ⟨by (with_reducible repeat (first | refine blk_drewN ?_ _ | refine blk_drew ?_ | refine blk_alloc ?_ _)); exact BK323.out⟩, ⟨by repeat (with_reducible first | exact HB.out | apply pw_below_drewN | apply below_drew1 | refine below_set ?_ (Aside0.out (by assumption)))⟩⟩
               ·rw [if_neg c37] at H
                have c37b0 : (((rd_T65 t313 x11_3).f1.f0) == ((rd_T28 l0_2 x9_2).f0.f0) && (((rd_T65 t313 x11_3).f1.f1) == ((rd_T28 l0_2 x9_2).f0.f1))) = false := by simpa using c37
                (try (have c37b1 : decide (((rd_T65 t313 x11_3).f1.f0) = ((rd_T28 l0_2 x9_2).f0.f0) && (((rd_T65 t313 x11_3).f1.f1) == ((rd_T28 l0_2 x9_2).f0.f1))) = false := by simpa using c37))
                (try (have c37b2 : (((rd_T65 t313 x11_3).f1.f0) == ((rd_T28 l0_2 x9_2).f0.f0) && (((rd_T65 t313 x11_3).f1.f1) == ((rd_T28 l0_2 x9_2).f0.f1))) = false := by simpa using c37))
                (try (have c37b3 : ¬ (((rd_T65 t313 x11_3).f1.f0) = ((rd_T28 l0_2 x9_2).f0.f0) && (((rd_T65 t313 x11_3).f1.f1) == ((rd_T28 l0_2 x9_2).f0.f1))) := by simpa using c37))
                clear c37
                have H' := Aside0.mk H
                clear H
                obtain ⟨Ao40, co40, eo40⟩ := Kd.R_slice HO_5.out
                subst eo40
                try go_wp2
                replace HO_5 := Aside0.mk (Kd.R_drew HO_5.out)
                replace HO_324002 := Aside0.mk (Kd.R_drew HO_324002.out)
                replace BK311 := Aside0.mk (blk_drew BK311.out)
                replace BK323 := Aside0.mk (blk_drew BK323.out)
                replace HB := Aside0.mk (below_drew1 HB.out)
                have p327 : 0 ≤ (x11_3 : Int) := of_decide_eq_true (by first | (with_reducible assumption) | assumption)
                have q327 : x11_3 < (t313.length : Int) := of_decide_eq_true (by first | (with_reducible assumption) | assumption)
                obtain ⟨ad327, e327, hx327_0, hx327_1, hx327_2, hx327_3⟩ := at_T65 (Kd.R_reads' HO_5.out).2.2 x11_3 p327 q327
                cases e327
                replace p327 := eq_true p327
                replace q327 := eq_true q327
                have p328 : 0 ≤ (x9_2 : Int) := of_decide_eq_true (by first | (with_reducible assumption) | assumption)
                have q328 : x9_2 < (l0_2.length : Int) := of_decide_eq_true (by first | (with_reducible assumption) | assumption)
                obtain ⟨ad328, e328, hx328_0, hx328_1, hx328_2, hx328_3, hx328_4, hx328_5⟩ := at_T28 HR0_2.out x9_2 p328 q328
                have hw328_5 := hx328_5
                have hw328_4 := hx328_4
                have hw328_3 := hx328_3
                have hw328_2 := hx328_2
                have hw328_1 := hx328_1
                have hw328_0 := hx328_0
                obtain rfl : ad326 = ad328 := (by injection e328)
                replace hx328_0 := (HB.out.cell (World.block_lt_of_cell? w _ hx328_0)).trans hx328_0
                replace hx328_1 := (HB.out.cell (World.block_lt_of_cell? w _ hx328_1)).trans hx328_1
                replace hx328_2 := (HB.out.cell (World.block_lt_of_cell? w _ hx328_2)).trans hx328_2
                replace hx328_3 := (HB.out.cell (World.block_lt_of_cell? w _ hx328_3)).trans hx328_3
                replace hx328_4 := (HB.out.cell (World.block_lt_of_cell? w _ hx328_4)).trans hx328_4
                replace hx328_5 := (HB.out.cell (World.block_lt_of_cell? w _ hx328_5)).trans hx328_5
                replace p328 := eq_true p328
                replace q328 := eq_true q328
                refine start_ (n := 12) (S := fun w' => w'.cell? ⟨gb311, 0, none⟩ = some (.int .i64 a0_0) ∧ w'.cell? ⟨gb311, 1, none⟩ = some (.int .i64 a0_1) ∧ w'.cell? ⟨gb311, 2, none⟩ = some (.slice (some ad326) l0_2.length c0_2) ∧ w'.cell? (ad327.add ((x11_3).toNat * 4)) = some (.int .i64 ((rd_T65 t313 x11_3).f0)) ∧ w'.cell? ⟨(ad327.add ((x11_3).toNat * 4)).block, (ad327.add ((x11_3).toNat * 4)).off + 1, none⟩ = some (.int .i64 ((rd_T65 t313 x11_3).f1.f0)) ∧ w'.cell? ⟨(ad327.add ((x11_3).toNat * 4)).block, (ad327.add ((x11_3).toNat * 4)).off + 2, none⟩ = some (.int .i64 ((rd_T65 t313 x11_3).f1.f1)) ∧ w'.cell? ⟨(ad327.add ((x11_3).toNat * 4)).block, (ad327.add ((x11_3).toNat * 4)).off + 3, none⟩ = some (.int .i64 ((rd_T65 t313 x11_3).f2)) ∧ w'.cell? (ad326.add ((x9_2).toNat * 6)) = some (.int .i64 ((rd_T28 l0_2 x9_2).f0.f0)) ∧ w'.cell? ⟨(ad326.add ((x9_2).toNat * 6)).block, (ad326.add ((x9_2).toNat * 6)).off + 1, none⟩ = some (.int .i64 ((rd_T28 l0_2 x9_2).f0.f1)) ∧ w'.cell? ⟨(ad326.add ((x9_2).toNat * 6)).block, (ad326.add ((x9_2).toNat * 6)).off + 2, none⟩ = some (.int .i64 ((rd_T28 l0_2 x9_2).f1)) ∧ w'.cell? ⟨(ad326.add ((x9_2).toNat * 6)).block, (ad326.add ((x9_2).toNat * 6)).off + 3, none⟩ = some (.int .i64 ((rd_T28 l0_2 x9_2).f2)) ∧ w'.cell? ⟨(ad326.add ((x9_2).toNat * 6)).block, (ad326.add ((x9_2).toNat * 6)).off + 4, none⟩ = some (.int .i64 ((rd_T28 l0_2 x9_2).f3)) ∧ w'.cell? ⟨(ad326.add ((x9_2).toNat * 6)).block, (ad326.add ((x9_2).toNat * 6)).off + 5, none⟩ = some (.int .i64 ((rd_T28 l0_2 x9_2).f4))) (ds := []) #[false, false, false, false, false, false, false, false, false, false, false, false] (by kernel_rfl) rfl rfl ⟨(blk_cell BK311.out 0).trans rfl, (blk_cell BK311.out 1).trans rfl, (blk_cell BK311.out 2).trans rfl, hx327_0, hx327_1, hx327_2, hx327_3, ((HB.out.cell (World.block_lt_of_cell? w _ hw328_0)).trans hw328_0), ((HB.out.cell (World.block_lt_of_cell? w _ hw328_1)).trans hw328_1), ((HB.out.cell (World.block_lt_of_cell? w _ hw328_2)).trans hw328_2), ((HB.out.cell (World.block_lt_of_cell? w _ hw328_3)).trans hw328_3), ((HB.out.cell (World.block_lt_of_cell? w _ hw328_4)).trans hw328_4), ((HB.out.cell (World.block_lt_of_cell? w _ hw328_5)).trans hw328_5)⟩ (fun hHeld => ?_); refine with_tabW watchmanlaw09_DuePass.tab14 watchmanlaw09_DuePass.bits14 (fun HT_ HW_ => ?_)
                generalize wr.drew = w41 at HO_5 HO_324002 BK311 BK323 HB hx327_0 hx327_1 hx327_2 hx327_3 hx328_0 hx328_1 hx328_2 hx328_3 hx328_4 hx328_5 hHeld ⊢
                have Q_ := Qs.mk (n := 12) [(0, 0, 64, 1), (0, 1, 65, 3), (0, 2, 66, 7), (0, 3, 67, 15), (0, 5, 69, 47), (0, 7, 71, 175), (2, 4, 68, 191), (2, 6, 70, 255), (0, 8, 72, 511), (0, 9, 73, 1023), (2, 10, 74, 2047), (0, 11, 75, 4095)]
                iterate 12 (first | (obtain ⟨q_, Q_⟩ := Qs.p Q_; refine pureQ_ q_ (v := ?_) (a' := ?_) rfl rfl (any_of HT_.out (by kernel_rfl)) (fun _ _ _ h => h) (Or.inl ⟨by rfl, ?_⟩) ?_ ?_; rotate_left; (intro w'; go_simp; with_reducible rfl); rotate_left; (simp only [Act.put, List.setIfInBounds_toArray, List.set_cons_zero, List.set_cons_succ, i64_w, i32_w]; rfl)) | (obtain ⟨q_, Q_⟩ := Qs.t Q_; refine takeQ_ q_ (v := ?_) (a' := ?_) rfl rfl (take_ofW HT_.out HW_.out (by kernel_rfl)) (fun _ _ _ h => h) (Or.inl ⟨by rfl, ?_⟩) hHeld ?_ ?_; rotate_left; (rintro w' ⟨s0, s1, s2, s3, s4, s5, s6, s7, s8, s9, s10, s11, s12⟩; go_simp; with_reducible rfl); rotate_left; (simp only [Act.put, List.setIfInBounds_toArray, List.set_cons_zero, List.set_cons_succ, i64_w, i32_w]; rfl)))
                clear Q_
                refine done_ (done_of HT_.out (by kernel_rfl)) ?_
                try go_wp2
                go_roundg k3
                case measure => have := HJ9.out; have := HK2.out; have := HK3.out; omega
                case rel => exact ⟨(x10_3), (wrap64 (x11_3 + 1)), (by first | rfl | (simp; done) | (simp [*]; done)), (by first | rfl | (simp; done) | (simp [*]; done)), H', ⟨by have := HJ9.out; have := HK2.out; have := HK3.out; omega⟩, ⟨by (with_reducible repeat (first | apply Kd.R_alloc | apply Kd.R_drewN | apply Kd.R_drew)); exact HO_5.out⟩, ⟨by (with_reducible repeat (first | apply Kd.R_alloc | apply Kd.R_drewN | apply Kd.R_drew)); exact HO_324002.out⟩, ⟨by (with_reducible repeat (first | refine blk_drewN ?_ _ | refine blk_drew ?_ | refine blk_alloc ?_ _)); exact BK311.out⟩, ⟨by (with_reducible repeat (first | refine blk_drewN ?_ _ | refine blk_drew ?_ | refine blk_alloc ?_ _)); exact BK323.out⟩, ⟨by repeat (with_reducible first | exact HB.out | apply pw_below_drewN | apply below_drew1 | refine below_set ?_ (Aside0.out (by assumption)))⟩⟩
              ·rw [if_neg c36] at H
               exact absurd H (by simp)
             ·rw [if_neg c35] at H
              exact absurd H (by simp)
            ·rw [if_neg c34] at H
             exact absurd H (by simp)
           ·rw [if_neg c33] at H
            have c33b0 : decide (x11_3 < (t313.length : Int)) = false := decide_eq_false c33
            clear c33
            by_cases c42 : 0 ≤ x9_2
            ·rw [if_pos c42] at H
             have c42b0 : decide (0 ≤ x9_2) = true := decide_eq_true c42
             clear c42
             by_cases c43 : x9_2 < (l0_2.length : Int)
             ·rw [if_pos c43] at H
              have c43b0 : decide (x9_2 < (l0_2.length : Int)) = true := decide_eq_true c43
              clear c43
              replace H := Option.bind_eq_some_iff.mp H
              obtain ⟨⟨t331, t332, t333, t334, t335, t336, t337⟩, A440, H⟩ := H
              try dsimp only at H
              have A44 := Aside0.mk A440
              clear A440
              replace H := Option.bind_eq_some_iff.mp H
              obtain ⟨⟨t340, t341⟩, A450, H⟩ := H
              try dsimp only at H
              have A45 := Aside0.mk A450
              clear A450
              by_cases c46 : t337 = true
              ·subst c46
               rw [if_pos rfl] at H; try dsimp only at H
               by_cases c47 : t341 = true
               ·subst c47
                rw [if_pos rfl] at H; try dsimp only at H
                by_cases c48 : t333 = x10_3
                ·rw [if_pos c48] at H
                 have c48b0 : (t333 == x10_3) = true := beq_iff_eq.mpr c48
                 have c48b1 : (t333 != x10_3) = false := bne_eq_false_iff_eq.mpr c48
                 clear c48
                 by_cases c49 : t340 = x10_3
                 ·rw [if_pos c49] at H
                  have c49b0 : (t340 == x10_3) = true := beq_iff_eq.mpr c49
                  have c49b1 : (t340 != x10_3) = false := bne_eq_false_iff_eq.mpr c49
                  clear c49
                  have H' := Aside0.mk H
                  clear H
                  obtain ⟨Ao50, co50, eo50⟩ := Kd.R_slice HO_5.out
                  subst eo50
                  try go_wp2
                  replace HO_5 := Aside0.mk (Kd.R_drew HO_5.out)
                  replace HO_324002 := Aside0.mk (Kd.R_drew HO_324002.out)
                  replace BK311 := Aside0.mk (blk_drew BK311.out)
                  replace BK323 := Aside0.mk (blk_drew BK323.out)
                  replace HB := Aside0.mk (below_drew1 HB.out)
                  have p330 : 0 ≤ (x9_2 : Int) := of_decide_eq_true (by first | (with_reducible assumption) | assumption)
                  have q330 : x9_2 < (l0_2.length : Int) := of_decide_eq_true (by first | (with_reducible assumption) | assumption)
                  obtain ⟨ad330, e330, hx330_0, hx330_1, hx330_2, hx330_3, hx330_4, hx330_5⟩ := at_T28 HR0_2.out x9_2 p330 q330
                  have hw330_5 := hx330_5
                  have hw330_4 := hx330_4
                  have hw330_3 := hx330_3
                  have hw330_2 := hx330_2
                  have hw330_1 := hx330_1
                  have hw330_0 := hx330_0
                  obtain rfl : ad326 = ad330 := (by injection e330)
                  replace hx330_0 := (HB.out.cell (World.block_lt_of_cell? w _ hx330_0)).trans hx330_0
                  replace hx330_1 := (HB.out.cell (World.block_lt_of_cell? w _ hx330_1)).trans hx330_1
                  replace hx330_2 := (HB.out.cell (World.block_lt_of_cell? w _ hx330_2)).trans hx330_2
                  replace hx330_3 := (HB.out.cell (World.block_lt_of_cell? w _ hx330_3)).trans hx330_3
                  replace hx330_4 := (HB.out.cell (World.block_lt_of_cell? w _ hx330_4)).trans hx330_4
                  replace hx330_5 := (HB.out.cell (World.block_lt_of_cell? w _ hx330_5)).trans hx330_5
                  replace p330 := eq_true p330
                  replace q330 := eq_true q330
                  refine start_ (n := 14) (S := fun w' => w'.cell? ⟨gb323, 0, none⟩ = some (.int .i64 t317) ∧ w'.cell? ⟨gb323, 1, none⟩ = some (.int .i64 t318) ∧ w'.cell? ⟨gb323, 2, none⟩ = some (.slice Ao21 t319.length co21) ∧ w'.cell? ⟨gb311, 0, none⟩ = some (.int .i64 a0_0) ∧ w'.cell? ⟨gb311, 1, none⟩ = some (.int .i64 a0_1) ∧ w'.cell? ⟨gb311, 2, none⟩ = some (.slice (some ad326) l0_2.length c0_2) ∧ w'.cell? (ad326.add ((x9_2).toNat * 6)) = some (.int .i64 ((rd_T28 l0_2 x9_2).f0.f0)) ∧ w'.cell? ⟨(ad326.add ((x9_2).toNat * 6)).block, (ad326.add ((x9_2).toNat * 6)).off + 1, none⟩ = some (.int .i64 ((rd_T28 l0_2 x9_2).f0.f1)) ∧ w'.cell? ⟨(ad326.add ((x9_2).toNat * 6)).block, (ad326.add ((x9_2).toNat * 6)).off + 2, none⟩ = some (.int .i64 ((rd_T28 l0_2 x9_2).f1)) ∧ w'.cell? ⟨(ad326.add ((x9_2).toNat * 6)).block, (ad326.add ((x9_2).toNat * 6)).off + 3, none⟩ = some (.int .i64 ((rd_T28 l0_2 x9_2).f2)) ∧ w'.cell? ⟨(ad326.add ((x9_2).toNat * 6)).block, (ad326.add ((x9_2).toNat * 6)).off + 4, none⟩ = some (.int .i64 ((rd_T28 l0_2 x9_2).f3)) ∧ w'.cell? ⟨(ad326.add ((x9_2).toNat * 6)).block, (ad326.add ((x9_2).toNat * 6)).off + 5, none⟩ = some (.int .i64 ((rd_T28 l0_2 x9_2).f4))) (ds := []) #[false, false, false, false, false, false, false, false, false, false, false, false, false, false] (by kernel_rfl) rfl rfl ⟨(blk_cell BK323.out 0).trans rfl, (blk_cell BK323.out 1).trans rfl, (blk_cell BK323.out 2).trans rfl, (blk_cell BK311.out 0).trans rfl, (blk_cell BK311.out 1).trans rfl, (blk_cell BK311.out 2).trans rfl, ((HB.out.cell (World.block_lt_of_cell? w _ hw330_0)).trans hw330_0), ((HB.out.cell (World.block_lt_of_cell? w _ hw330_1)).trans hw330_1), ((HB.out.cell (World.block_lt_of_cell? w _ hw330_2)).trans hw330_2), ((HB.out.cell (World.block_lt_of_cell? w _ hw330_3)).trans hw330_3), ((HB.out.cell (World.block_lt_of_cell? w _ hw330_4)).trans hw330_4), ((HB.out.cell (World.block_lt_of_cell? w _ hw330_5)).trans hw330_5)⟩ (fun hHeld => ?_); refine with_tabW watchmanlaw09_DuePass.tab16 watchmanlaw09_DuePass.bits16 (fun HT_ HW_ => ?_)
                  generalize wr.drew = w51 at HO_5 HO_324002 BK311 BK323 HB hx330_0 hx330_1 hx330_2 hx330_3 hx330_4 hx330_5 hHeld ⊢
                  have Q_ := Qs.mk (n := 14) [(0, 1, 83, 2), (0, 3, 85, 10), (2, 0, 82, 11), (2, 2, 84, 15), (0, 4, 86, 31), (0, 5, 87, 63), (2, 6, 88, 127)]
                  iterate 7 (first | (obtain ⟨q_, Q_⟩ := Qs.p Q_; refine pureQ_ q_ (v := ?_) (a' := ?_) rfl rfl (any_of HT_.out (by kernel_rfl)) (fun _ _ _ h => h) (Or.inl ⟨by rfl, ?_⟩) ?_ ?_; rotate_left; (intro w'; go_simp; with_reducible rfl); rotate_left; (simp only [Act.put, List.setIfInBounds_toArray, List.set_cons_zero, List.set_cons_succ, i64_w, i32_w]; rfl)) | (obtain ⟨q_, Q_⟩ := Qs.t Q_; refine takeQ_ q_ (v := ?_) (a' := ?_) rfl rfl (take_ofW HT_.out HW_.out (by kernel_rfl)) (fun _ _ _ h => h) (Or.inl ⟨by rfl, ?_⟩) hHeld ?_ ?_; rotate_left; (rintro w' ⟨s0, s1, s2, s3, s4, s5, s6, s7, s8, s9, s10, s11⟩; go_simp; with_reducible rfl); rotate_left; (simp only [Act.put, List.setIfInBounds_toArray, List.set_cons_zero, List.set_cons_succ, i64_w, i32_w]; rfl)))
                  clear Q_
                  refine join_ (σ := Nat) 2 (dn_ 12 14) (fun s_ => [(89, .tuple #[.agg #[.int .i64 t331, .int .i64 t332, .int .i64 t333, .int .i64 t334, .int .i64 t335, .int .i64 t336], .bool true]), (12, .pointer (some ⟨s_, 0, none⟩)), (81, .tuple #[.agg #[.int .i64 t331, .int .i64 t332, .int .i64 t333, .int .i64 t334, .int .i64 t335, .int .i64 t336], .bool true]), (90, .agg #[.int .i64 t331, .int .i64 t332, .int .i64 t333, .int .i64 t334, .int .i64 t335, .int .i64 t336]), (91, .bool true)]) (fun s_ w' => (w'.cell? ⟨gb323, 0, none⟩ = some (.int .i64 t317) ∧ w'.cell? ⟨gb323, 1, none⟩ = some (.int .i64 t318) ∧ w'.cell? ⟨gb323, 2, none⟩ = some (.slice Ao21 t319.length co21) ∧ w'.cell? ⟨gb311, 0, none⟩ = some (.int .i64 a0_0) ∧ w'.cell? ⟨gb311, 1, none⟩ = some (.int .i64 a0_1) ∧ w'.cell? ⟨gb311, 2, none⟩ = some (.slice (some ad326) l0_2.length c0_2) ∧ w'.cell? (ad326.add ((x9_2).toNat * 6)) = some (.int .i64 ((rd_T28 l0_2 x9_2).f0.f0)) ∧ w'.cell? ⟨(ad326.add ((x9_2).toNat * 6)).block, (ad326.add ((x9_2).toNat * 6)).off + 1, none⟩ = some (.int .i64 ((rd_T28 l0_2 x9_2).f0.f1)) ∧ w'.cell? ⟨(ad326.add ((x9_2).toNat * 6)).block, (ad326.add ((x9_2).toNat * 6)).off + 2, none⟩ = some (.int .i64 ((rd_T28 l0_2 x9_2).f1)) ∧ w'.cell? ⟨(ad326.add ((x9_2).toNat * 6)).block, (ad326.add ((x9_2).toNat * 6)).off + 3, none⟩ = some (.int .i64 ((rd_T28 l0_2 x9_2).f2)) ∧ w'.cell? ⟨(ad326.add ((x9_2).toNat * 6)).block, (ad326.add ((x9_2).toNat * 6)).off + 4, none⟩ = some (.int .i64 ((rd_T28 l0_2 x9_2).f3)) ∧ w'.cell? ⟨(ad326.add ((x9_2).toNat * 6)).block, (ad326.add ((x9_2).toNat * 6)).off + 5, none⟩ = some (.int .i64 ((rd_T28 l0_2 x9_2).f4))) ∧ (Kd.R k28 28 w' w.heap.size (fun k_ => k_ ≠ s_) (.slice Ao21 t319.length co21) t319) ∧ (Kd.R k65 65 w' w.heap.size (fun _ => True) (.slice Ao50 t313.length co50) t313) ∧ (w'.heap[gb311]? = some (.cells #[.int .i64 a0_0, .int .i64 a0_1, .slice (some ad326) l0_2.length c0_2] 24 (0, 0))) ∧ (w'.heap[gb323]? = some (.cells #[.int .i64 t317, .int .i64 t318, .slice Ao21 t319.length co21] 24 (0, 0))) ∧ (w'.heap[s_]? = some (.cells #[.int .i64 0, .int .i64 0, .int .i64 0, .int .i64 0, .int .i64 0, .int .i64 0] 28 (0, 0))) ∧ (w.heap.size ≤ s_) ∧ (w.heap.size ≤ s_) ∧ (gb311 ≠ s_) ∧ (s_ ≠ gb311) ∧ (gb323 ≠ s_) ∧ (s_ ≠ gb323) ∧ (Below w.heap.size w w')) ?_ ?_
                  rotate_left
                  ·intro hCont
                   refine two_ (i := 7) (j := 11) (Ni := some 89) (Nj := some 12) (dn_ 8 14) #[true, true, true, true, true, true, true, false, false, false, false, true, false, false] rfl rfl rfl rfl (two_of HT_.out (by kernel_rfl)) (by decide) (by decide) (fun K hK => ?_) (fun K hK => ?_)
                   ·skip
                    refine goes_ Try.func21 (by kernel_rfl) rfl #[.agg #[.int .i64 t317, .int .i64 t318, .slice Ao21 t319.length co21], .agg #[.int .i64 ((rd_T28 l0_2 x9_2).f0.f0), .int .i64 ((rd_T28 l0_2 x9_2).f0.f1)]] (by rfl) rfl rfl (by (try simp only [List.map_toArray, List.map_cons, List.map_nil]); first | done | rfl | (simp only [List.length_drop, List.length_take]; rfl)) ?_
                    with_reducible refine (board_Get.calls t317 t318 _ _ t319 ((rd_T28 l0_2 x9_2).f0.f0) ((rd_T28 l0_2 x9_2).f0.f1) t331 t332 t333 t334 t335 t336 true _ ?side1 ?side2 A44.out).mono ?_
                    (case side1 => repeat (first | exact (Kd.R_reads' HO_324002.out).2.2 | (with_reducible refine Kd.C_alloc ?_ _) | (with_reducible refine Kd.C_drewN ?_ _) | (with_reducible refine Kd.C_drew ?_)))
                    (case side2 => exact (Kd.R_reads' HO_324002.out).2.1)
                    rintro e w52 ⟨rfl, hb⟩
                    refine ⟨_, rfl, ?_⟩
                    replace HO_5 := rb_ HO_5 hb
                    replace HO_324002 := rb_ HO_324002 hb
                    replace BK311 := bl_ BK311 hb
                    replace BK323 := bl_ BK323 hb
                    replace HB := Aside0.mk (below_step (by repeat (with_reducible first | exact HB.out | apply pw_below_drewN | apply below_drew1 | refine below_set ?_ (Aside0.out (by assumption)))) hb)
                    (try clear hb)
                    (try clear hb2)
                    (try clear hk)
                    (try clear hi)
                    refine hK.out _ _ ⟨(blk_cell BK323.out 0).trans rfl, (blk_cell BK323.out 1).trans rfl, (blk_cell BK323.out 2).trans rfl, (blk_cell BK311.out 0).trans rfl, (blk_cell BK311.out 1).trans rfl, (blk_cell BK311.out 2).trans rfl, ((HB.out.cell (World.block_lt_of_cell? w _ hw330_0)).trans hw330_0), ((HB.out.cell (World.block_lt_of_cell? w _ hw330_1)).trans hw330_1), ((HB.out.cell (World.block_lt_of_cell? w _ hw330_2)).trans hw330_2), ((HB.out.cell (World.block_lt_of_cell? w _ hw330_3)).trans hw330_3), ((HB.out.cell (World.block_lt_of_cell? w _ hw330_4)).trans hw330_4), ((HB.out.cell (World.block_lt_of_cell? w _ hw330_5)).trans hw330_5)⟩ (fun hHeld => ?_)
                    clear hK K
                    refine norm_ (a' := ?_) ?_ ?_
                    rotate_left
                    ·show Act.put _ (some 89) _ = _
                     simp only [Act.put, List.setIfInBounds_toArray, List.set_cons_zero, List.set_cons_succ, i64_w, i32_w]
                     rfl
                    have Q_ := Qs.mk (n := 14) [(0, 8, 81, 511), (0, 9, 90, 1023), (0, 10, 91, 2047)]
                    iterate 3 (first | (obtain ⟨q_, Q_⟩ := Qs.p Q_; refine pureQ_ q_ (v := ?_) (a' := ?_) rfl rfl (any_of HT_.out (by kernel_rfl)) (fun _ _ _ h => h) (Or.inl ⟨by rfl, ?_⟩) ?_ ?_; rotate_left; (intro w'; go_simp; with_reducible rfl); rotate_left; (simp only [Act.put, List.setIfInBounds_toArray, List.set_cons_zero, List.set_cons_succ, i64_w, i32_w]; rfl)))
                    clear Q_
                    refine one_ (i := 11) (N := some 12) (dn_ 12 14) rfl rfl (one_of HT_.out (by kernel_rfl)) (by decide) (fun K hK => ?_)
                    refine box_step ?hg (N := 12) ?hd (cs := #[.int .i64 0, .int .i64 0, .int .i64 0, .int .i64 0, .int .i64 0, .int .i64 0]) (t := 28) ?hr ?_; (case hd => rfl); (case hg => rfl); (case hr => first | (go_simp; done) | (go_simp; rfl))
                    intro gb338 hg w53 hbox hb
                    replace HO_5 := rb_ HO_5 hb
                    replace HO_324002 := Aside0.mk (Kd.R_below (Kd.R_elderB (HO_324002.out) gb338 (Nat.le_of_eq hg.symm)) hb)
                    have BK338 := Aside0.mk (hbox)
                    have GW338 := Aside0.mk ((by rw [hg]; exact (below_size (by repeat (with_reducible first | exact HB.out | apply pw_below_drewN | apply below_drew1 | refine below_set ?_ (Aside0.out (by assumption))))) : w.heap.size ≤ gb338))
                    have GE338 := Aside0.mk ((by rw [hg]; exact (below_size (by repeat (with_reducible first | exact HB.out | apply pw_below_drewN | apply below_drew1 | refine below_set ?_ (Aside0.out (by assumption))))) : w.heap.size ≤ gb338))
                    replace HB := Aside0.mk (below_step (by repeat (with_reducible first | exact HB.out | apply pw_below_drewN | apply below_drew1 | refine below_set ?_ (Aside0.out (by assumption)))) hb)
                    have NB311_338 := Aside0.mk ((by rw [hg]; exact Nat.ne_of_lt (blk_lt BK311.out) : gb311 ≠ gb338))
                    have NB338_311 := Aside0.mk ((by rw [hg]; exact Nat.ne_of_gt (blk_lt BK311.out) : gb338 ≠ gb311))
                    replace BK311 := bl_ BK311 hb
                    have NB323_338 := Aside0.mk ((by rw [hg]; exact Nat.ne_of_lt (blk_lt BK323.out) : gb323 ≠ gb338))
                    have NB338_323 := Aside0.mk ((by rw [hg]; exact Nat.ne_of_gt (blk_lt BK323.out) : gb338 ≠ gb323))
                    replace BK323 := bl_ BK323 hb
                    clear hb hbox hg
                    refine hK.out _ _ ⟨(blk_cell BK323.out 0).trans rfl, (blk_cell BK323.out 1).trans rfl, (blk_cell BK323.out 2).trans rfl, (blk_cell BK311.out 0).trans rfl, (blk_cell BK311.out 1).trans rfl, (blk_cell BK311.out 2).trans rfl, ((HB.out.cell (World.block_lt_of_cell? w _ hw330_0)).trans hw330_0), ((HB.out.cell (World.block_lt_of_cell? w _ hw330_1)).trans hw330_1), ((HB.out.cell (World.block_lt_of_cell? w _ hw330_2)).trans hw330_2), ((HB.out.cell (World.block_lt_of_cell? w _ hw330_3)).trans hw330_3), ((HB.out.cell (World.block_lt_of_cell? w _ hw330_4)).trans hw330_4), ((HB.out.cell (World.block_lt_of_cell? w _ hw330_5)).trans hw330_5)⟩ (fun hHeld => ?_)
                    clear hK K
                    refine norm_ (a' := ?_) ?_ ?_
                    rotate_left
                    ·show Act.put _ (some 12) _ = _
                     simp only [Act.put, List.setIfInBounds_toArray, List.set_cons_zero, List.set_cons_succ, i64_w, i32_w]
                     rfl
                    exact norm_ (by simp only [putAll, Act.put, List.setIfInBounds_toArray, List.set_cons_zero, List.set_cons_succ]) (hCont (gb338) _ ⟨hHeld, (by (with_reducible repeat (first | apply Kd.R_alloc | apply Kd.R_drewN | apply Kd.R_drew)); exact Kd.R_mono HO_324002.out (fun _ hk => hk.2)), (by (with_reducible repeat (first | apply Kd.R_alloc | apply Kd.R_drewN | apply Kd.R_drew)); exact HO_5.out), (by (with_reducible repeat (first | refine blk_drewN ?_ _ | refine blk_drew ?_ | refine blk_alloc ?_ _)); exact BK311.out), (by (with_reducible repeat (first | refine blk_drewN ?_ _ | refine blk_drew ?_ | refine blk_alloc ?_ _)); exact BK323.out), (by (with_reducible repeat (first | refine blk_drewN ?_ _ | refine blk_drew ?_ | refine blk_alloc ?_ _)); exact BK338.out), GW338.out, GE338.out, NB311_338.out, NB338_311.out, NB323_338.out, NB338_323.out, (by repeat (with_reducible first | exact HB.out | apply pw_below_drewN | apply below_drew1 | refine below_set ?_ (Aside0.out (by assumption))))⟩)
                   ·skip
                    refine box_step ?hg (N := 12) ?hd (cs := #[.int .i64 0, .int .i64 0, .int .i64 0, .int .i64 0, .int .i64 0, .int .i64 0]) (t := 28) ?hr ?_; (case hd => rfl); (case hg => rfl); (case hr => first | (go_simp; done) | (go_simp; rfl))
                    intro gb338 hg w52 hbox hb
                    replace HO_5 := rb_ HO_5 hb
                    replace HO_324002 := Aside0.mk (Kd.R_below (Kd.R_elderB (HO_324002.out) gb338 (Nat.le_of_eq hg.symm)) hb)
                    have BK338 := Aside0.mk (hbox)
                    have GW338 := Aside0.mk ((by rw [hg]; exact (below_size (by repeat (with_reducible first | exact HB.out | apply pw_below_drewN | apply below_drew1 | refine below_set ?_ (Aside0.out (by assumption))))) : w.heap.size ≤ gb338))
                    have GE338 := Aside0.mk ((by rw [hg]; exact (below_size (by repeat (with_reducible first | exact HB.out | apply pw_below_drewN | apply below_drew1 | refine below_set ?_ (Aside0.out (by assumption))))) : w.heap.size ≤ gb338))
                    replace HB := Aside0.mk (below_step (by repeat (with_reducible first | exact HB.out | apply pw_below_drewN | apply below_drew1 | refine below_set ?_ (Aside0.out (by assumption)))) hb)
                    have NB311_338 := Aside0.mk ((by rw [hg]; exact Nat.ne_of_lt (blk_lt BK311.out) : gb311 ≠ gb338))
                    have NB338_311 := Aside0.mk ((by rw [hg]; exact Nat.ne_of_gt (blk_lt BK311.out) : gb338 ≠ gb311))
                    replace BK311 := bl_ BK311 hb
                    have NB323_338 := Aside0.mk ((by rw [hg]; exact Nat.ne_of_lt (blk_lt BK323.out) : gb323 ≠ gb338))
                    have NB338_323 := Aside0.mk ((by rw [hg]; exact Nat.ne_of_gt (blk_lt BK323.out) : gb338 ≠ gb323))
                    replace BK323 := bl_ BK323 hb
                    clear hb hbox hg
                    refine hK.out _ _ ⟨(blk_cell BK323.out 0).trans rfl, (blk_cell BK323.out 1).trans rfl, (blk_cell BK323.out 2).trans rfl, (blk_cell BK311.out 0).trans rfl, (blk_cell BK311.out 1).trans rfl, (blk_cell BK311.out 2).trans rfl, ((HB.out.cell (World.block_lt_of_cell? w _ hw330_0)).trans hw330_0), ((HB.out.cell (World.block_lt_of_cell? w _ hw330_1)).trans hw330_1), ((HB.out.cell (World.block_lt_of_cell? w _ hw330_2)).trans hw330_2), ((HB.out.cell (World.block_lt_of_cell? w _ hw330_3)).trans hw330_3), ((HB.out.cell (World.block_lt_of_cell? w _ hw330_4)).trans hw330_4), ((HB.out.cell (World.block_lt_of_cell? w _ hw330_5)).trans hw330_5)⟩ (fun hHeld => ?_)
                    clear hK K
                    refine norm_ (a' := ?_) ?_ ?_
                    rotate_left
                    ·show Act.put _ (some 12) _ = _
                     simp only [Act.put, List.setIfInBounds_toArray, List.set_cons_zero, List.set_cons_succ, i64_w, i32_w]
                     rfl
                    refine one_ (i := 7) (N := some 89) #[true, true, true, true, true, true, true, true, false, false, false, true, false, false] rfl rfl (one_of HT_.out (by kernel_rfl)) (by decide) (fun K hK => ?_)
                    refine goes_ Try.func21 (by kernel_rfl) rfl #[.agg #[.int .i64 t317, .int .i64 t318, .slice Ao21 t319.length co21], .agg #[.int .i64 ((rd_T28 l0_2 x9_2).f0.f0), .int .i64 ((rd_T28 l0_2 x9_2).f0.f1)]] (by rfl) rfl rfl (by (try simp only [List.map_toArray, List.map_cons, List.map_nil]); first | done | rfl | (simp only [List.length_drop, List.length_take]; rfl)) ?_
                    with_reducible refine (board_Get.calls t317 t318 _ _ t319 ((rd_T28 l0_2 x9_2).f0.f0) ((rd_T28 l0_2 x9_2).f0.f1) t331 t332 t333 t334 t335 t336 true _ ?side1 ?side2 A44.out).mono ?_
                    (case side1 => repeat (first | exact (Kd.R_reads' HO_324002.out).2.2 | (with_reducible refine Kd.C_alloc ?_ _) | (with_reducible refine Kd.C_drewN ?_ _) | (with_reducible refine Kd.C_drew ?_)))
                    (case side2 => exact (Kd.R_reads' HO_324002.out).2.1)
                    rintro e w53 ⟨rfl, hb⟩
                    refine ⟨_, rfl, ?_⟩
                    replace HO_5 := rb_ HO_5 hb
                    replace HO_324002 := rb_ HO_324002 hb
                    replace BK311 := bl_ BK311 hb
                    replace BK323 := bl_ BK323 hb
                    replace BK338 := bl_ BK338 hb
                    replace HB := Aside0.mk (below_step (by repeat (with_reducible first | exact HB.out | apply pw_below_drewN | apply below_drew1 | refine below_set ?_ (Aside0.out (by assumption)))) hb)
                    (try clear hb)
                    (try clear hb2)
                    (try clear hk)
                    (try clear hi)
                    refine hK.out _ _ ⟨(blk_cell BK323.out 0).trans rfl, (blk_cell BK323.out 1).trans rfl, (blk_cell BK323.out 2).trans rfl, (blk_cell BK311.out 0).trans rfl, (blk_cell BK311.out 1).trans rfl, (blk_cell BK311.out 2).trans rfl, ((HB.out.cell (World.block_lt_of_cell? w _ hw330_0)).trans hw330_0), ((HB.out.cell (World.block_lt_of_cell? w _ hw330_1)).trans hw330_1), ((HB.out.cell (World.block_lt_of_cell? w _ hw330_2)).trans hw330_2), ((HB.out.cell (World.block_lt_of_cell? w _ hw330_3)).trans hw330_3), ((HB.out.cell (World.block_lt_of_cell? w _ hw330_4)).trans hw330_4), ((HB.out.cell (World.block_lt_of_cell? w _ hw330_5)).trans hw330_5)⟩ (fun hHeld => ?_)
                    clear hK K
                    refine norm_ (a' := ?_) ?_ ?_
                    rotate_left
                    ·show Act.put _ (some 89) _ = _
                     simp only [Act.put, List.setIfInBounds_toArray, List.set_cons_zero, List.set_cons_succ, i64_w, i32_w]
                     rfl
                    have Q_ := Qs.mk (n := 14) [(0, 8, 81, 2559), (0, 9, 90, 3071), (0, 10, 91, 4095)]
                    iterate 3 (first | (obtain ⟨q_, Q_⟩ := Qs.p Q_; refine pureQ_ q_ (v := ?_) (a' := ?_) rfl rfl (any_of HT_.out (by kernel_rfl)) (fun _ _ _ h => h) (Or.inl ⟨by rfl, ?_⟩) ?_ ?_; rotate_left; (intro w'; go_simp; with_reducible rfl); rotate_left; (simp only [Act.put, List.setIfInBounds_toArray, List.set_cons_zero, List.set_cons_succ, i64_w, i32_w]; rfl)))
                    clear Q_
                    exact norm_ (by simp only [putAll, Act.put, List.setIfInBounds_toArray, List.set_cons_zero, List.set_cons_succ]) (hCont (gb338) _ ⟨hHeld, (by (with_reducible repeat (first | apply Kd.R_alloc | apply Kd.R_drewN | apply Kd.R_drew)); exact Kd.R_mono HO_324002.out (fun _ hk => hk.2)), (by (with_reducible repeat (first | apply Kd.R_alloc | apply Kd.R_drewN | apply Kd.R_drew)); exact HO_5.out), (by (with_reducible repeat (first | refine blk_drewN ?_ _ | refine blk_drew ?_ | refine blk_alloc ?_ _)); exact BK311.out), (by (with_reducible repeat (first | refine blk_drewN ?_ _ | refine blk_drew ?_ | refine blk_alloc ?_ _)); exact BK323.out), (by (with_reducible repeat (first | refine blk_drewN ?_ _ | refine blk_drew ?_ | refine blk_alloc ?_ _)); exact BK338.out), GW338.out, GE338.out, NB311_338.out, NB338_311.out, NB323_338.out, NB338_323.out, (by repeat (with_reducible first | exact HB.out | apply pw_below_drewN | apply below_drew1 | refine below_set ?_ (Aside0.out (by assumption))))⟩)
                  rintro gb338 w54 ⟨hS_, h0_, h1_, h2_, h3_, h4_, h5_, h6_, h7_, h8_, h9_, h10_, h11_⟩
                  have n0_ : Aside0 (Kd.R k28 28 w54 w.heap.size (fun k_ => k_ ≠ gb338) (.slice Ao21 t319.length co21) t319) := ⟨h0_⟩
                  have n1_ : Aside0 (Kd.R k65 65 w54 w.heap.size (fun _ => True) (.slice Ao50 t313.length co50) t313) := ⟨h1_⟩
                  have n2_ : Aside0 (w54.heap[gb311]? = some (.cells #[.int .i64 a0_0, .int .i64 a0_1, .slice (some ad326) l0_2.length c0_2] 24 (0, 0))) := ⟨h2_⟩
                  have n3_ : Aside0 (w54.heap[gb323]? = some (.cells #[.int .i64 t317, .int .i64 t318, .slice Ao21 t319.length co21] 24 (0, 0))) := ⟨h3_⟩
                  have n4_ : Aside0 (w54.heap[gb338]? = some (.cells #[.int .i64 0, .int .i64 0, .int .i64 0, .int .i64 0, .int .i64 0, .int .i64 0] 28 (0, 0))) := ⟨h4_⟩
                  have n5_ : Aside0 (w.heap.size ≤ gb338) := ⟨h5_⟩
                  have n6_ : Aside0 (w.heap.size ≤ gb338) := ⟨h6_⟩
                  have n7_ : Aside0 (gb311 ≠ gb338) := ⟨h7_⟩
                  have n8_ : Aside0 (gb338 ≠ gb311) := ⟨h8_⟩
                  have n9_ : Aside0 (gb323 ≠ gb338) := ⟨h9_⟩
                  have n10_ : Aside0 (gb338 ≠ gb323) := ⟨h10_⟩
                  have n11_ : Aside0 (Below w.heap.size w w54) := ⟨h11_⟩
                  clear HO_5
                  clear HO_324002
                  clear BK311
                  clear BK323
                  clear HB
                  clear h0_ h1_ h2_ h3_ h4_ h5_ h6_ h7_ h8_ h9_ h10_ h11_
                  have HO_324002 := n0_
                  have HO_5 := n1_
                  have BK311 := n2_
                  have BK323 := n3_
                  have BK338 := n4_
                  have GW338 := n5_
                  have GE338 := n6_
                  have NB311_338 := n7_
                  have NB338_311 := n8_
                  have NB323_338 := n9_
                  have NB338_323 := n10_
                  have HB := n11_
                  clear n0_ n1_ n2_ n3_ n4_ n5_ n6_ n7_ n8_ n9_ n10_ n11_
                  have hHeld : w54.cell? ⟨gb323, 0, none⟩ = some (.int .i64 t317) ∧ w54.cell? ⟨gb323, 1, none⟩ = some (.int .i64 t318) ∧ w54.cell? ⟨gb323, 2, none⟩ = some (.slice Ao21 t319.length co21) ∧ w54.cell? ⟨gb311, 0, none⟩ = some (.int .i64 a0_0) ∧ w54.cell? ⟨gb311, 1, none⟩ = some (.int .i64 a0_1) ∧ w54.cell? ⟨gb311, 2, none⟩ = some (.slice (some ad326) l0_2.length c0_2) ∧ w54.cell? (ad326.add ((x9_2).toNat * 6)) = some (.int .i64 ((rd_T28 l0_2 x9_2).f0.f0)) ∧ w54.cell? ⟨(ad326.add ((x9_2).toNat * 6)).block, (ad326.add ((x9_2).toNat * 6)).off + 1, none⟩ = some (.int .i64 ((rd_T28 l0_2 x9_2).f0.f1)) ∧ w54.cell? ⟨(ad326.add ((x9_2).toNat * 6)).block, (ad326.add ((x9_2).toNat * 6)).off + 2, none⟩ = some (.int .i64 ((rd_T28 l0_2 x9_2).f1)) ∧ w54.cell? ⟨(ad326.add ((x9_2).toNat * 6)).block, (ad326.add ((x9_2).toNat * 6)).off + 3, none⟩ = some (.int .i64 ((rd_T28 l0_2 x9_2).f2)) ∧ w54.cell? ⟨(ad326.add ((x9_2).toNat * 6)).block, (ad326.add ((x9_2).toNat * 6)).off + 4, none⟩ = some (.int .i64 ((rd_T28 l0_2 x9_2).f3)) ∧ w54.cell? ⟨(ad326.add ((x9_2).toNat * 6)).block, (ad326.add ((x9_2).toNat * 6)).off + 5, none⟩ = some (.int .i64 ((rd_T28 l0_2 x9_2).f4)) := hS_
                  refine norm_ (a' := ?_) ?_ ?_
                  rotate_left; (simp only [putAll, Act.put, List.setIfInBounds_toArray, List.set_cons_zero, List.set_cons_succ]; rfl)
                  refine one_ (i := 12) (N := none) (dn_ 13 14) rfl rfl (one_of HT_.out (by kernel_rfl)) (by decide) (fun K hK => ?_)
                  have hs55 : w54.cell? ⟨gb338, 0, none⟩ = some (.int .i64 0) := (blk_cell BK338.out 0).trans rfl
                  have hfs55 := blk_frozen BK338.out 0
                  have hns55_0 := NB311_338.out
                  have hns55_1 := NB323_338.out
                  have hms55_0 := NB338_311.out
                  have hms55_1 := NB338_323.out
                  have hs56 : w54.cell? ⟨gb338, 1, none⟩ = some (.int .i64 0) := (blk_cell BK338.out 1).trans rfl
                  have hfs56 := blk_frozen BK338.out 1
                  have hns56_0 := NB311_338.out
                  have hns56_1 := NB323_338.out
                  have hms56_0 := NB338_311.out
                  have hms56_1 := NB338_323.out
                  have hs57 : w54.cell? ⟨gb338, 2, none⟩ = some (.int .i64 0) := (blk_cell BK338.out 2).trans rfl
                  have hfs57 := blk_frozen BK338.out 2
                  have hns57_0 := NB311_338.out
                  have hns57_1 := NB323_338.out
                  have hms57_0 := NB338_311.out
                  have hms57_1 := NB338_323.out
                  have hs58 : w54.cell? ⟨gb338, 3, none⟩ = some (.int .i64 0) := (blk_cell BK338.out 3).trans rfl
                  have hfs58 := blk_frozen BK338.out 3
                  have hns58_0 := NB311_338.out
                  have hns58_1 := NB323_338.out
                  have hms58_0 := NB338_311.out
                  have hms58_1 := NB338_323.out
                  have hs59 : w54.cell? ⟨gb338, 4, none⟩ = some (.int .i64 0) := (blk_cell BK338.out 4).trans rfl
                  have hfs59 := blk_frozen BK338.out 4
                  have hns59_0 := NB311_338.out
                  have hns59_1 := NB323_338.out
                  have hms59_0 := NB338_311.out
                  have hms59_1 := NB338_323.out
                  have hs60 : w54.cell? ⟨gb338, 5, none⟩ = some (.int .i64 0) := (blk_cell BK338.out 5).trans rfl
                  have hfs60 := blk_frozen BK338.out 5
                  have hns60_0 := NB311_338.out
                  have hns60_1 := NB323_338.out
                  have hms60_0 := NB338_311.out
                  have hms60_1 := NB338_323.out
                  refine skip_ (w1 := ?_) (by rfl) rfl ?_ ?_
                  rotate_left
                  ·go_simp
                   rfl
                  refine hK.out _ _ ⟨((cf6_ NB323_338.out).trans (hHeld.1)), ((cf6_ NB323_338.out).trans (hHeld.2.1)), ((cf6_ NB323_338.out).trans (hHeld.2.2.1)), ((cf6_ NB311_338.out).trans (hHeld.2.2.2.1)), ((cf6_ NB311_338.out).trans (hHeld.2.2.2.2.1)), ((cf6_ NB311_338.out).trans (hHeld.2.2.2.2.2.1)), ((cf6_ (by first | exact Nat.ne_of_lt (Nat.lt_of_lt_of_le (by have := World.block_lt_of_cell? _ _ hw330_0; first | rwa [add_block] at this | exact this) GW338.out) | (rw [add_block]; exact Nat.ne_of_lt (Nat.lt_of_lt_of_le (by have := World.block_lt_of_cell? _ _ hw330_0; first | rwa [add_block] at this | exact this) GW338.out)) | (show (Addr.add _ _).block ≠ _; rw [add_block]; exact Nat.ne_of_lt (Nat.lt_of_lt_of_le (by have := World.block_lt_of_cell? _ _ hw330_0; first | rwa [add_block] at this | exact this) GW338.out)) | (dsimp only; exact Nat.ne_of_lt (Nat.lt_of_lt_of_le (by have := World.block_lt_of_cell? _ _ hw330_0; first | rwa [add_block] at this | exact this) GW338.out)))).trans (hHeld.2.2.2.2.2.2.1)), ((cf6_ (by first | exact Nat.ne_of_lt (Nat.lt_of_lt_of_le (by have := World.block_lt_of_cell? _ _ hw330_1; first | rwa [add_block] at this | exact this) GW338.out) | (rw [add_block]; exact Nat.ne_of_lt (Nat.lt_of_lt_of_le (by have := World.block_lt_of_cell? _ _ hw330_1; first | rwa [add_block] at this | exact this) GW338.out)) | (show (Addr.add _ _).block ≠ _; rw [add_block]; exact Nat.ne_of_lt (Nat.lt_of_lt_of_le (by have := World.block_lt_of_cell? _ _ hw330_1; first | rwa [add_block] at this | exact this) GW338.out)) | (dsimp only; exact Nat.ne_of_lt (Nat.lt_of_lt_of_le (by have := World.block_lt_of_cell? _ _ hw330_1; first | rwa [add_block] at this | exact this) GW338.out)))).trans (hHeld.2.2.2.2.2.2.2.1)), ((cf6_ (by first | exact Nat.ne_of_lt (Nat.lt_of_lt_of_le (by have := World.block_lt_of_cell? _ _ hw330_2; first | rwa [add_block] at this | exact this) GW338.out) | (rw [add_block]; exact Nat.ne_of_lt (Nat.lt_of_lt_of_le (by have := World.block_lt_of_cell? _ _ hw330_2; first | rwa [add_block] at this | exact this) GW338.out)) | (show (Addr.add _ _).block ≠ _; rw [add_block]; exact Nat.ne_of_lt (Nat.lt_of_lt_of_le (by have := World.block_lt_of_cell? _ _ hw330_2; first | rwa [add_block] at this | exact this) GW338.out)) | (dsimp only; exact Nat.ne_of_lt (Nat.lt_of_lt_of_le (by have := World.block_lt_of_cell? _ _ hw330_2; first | rwa [add_block] at this | exact this) GW338.out)))).trans (hHeld.2.2.2.2.2.2.2.2.1)), ((cf6_ (by first | exact Nat.ne_of_lt (Nat.lt_of_lt_of_le (by have := World.block_lt_of_cell? _ _ hw330_3; first | rwa [add_block] at this | exact this) GW338.out) | (rw [add_block]; exact Nat.ne_of_lt (Nat.lt_of_lt_of_le (by have := World.block_lt_of_cell? _ _ hw330_3; first | rwa [add_block] at this | exact this) GW338.out)) | (show (Addr.add _ _).block ≠ _; rw [add_block]; exact Nat.ne_of_lt (Nat.lt_of_lt_of_le (by have := World.block_lt_of_cell? _ _ hw330_3; first | rwa [add_block] at this | exact this) GW338.out)) | (dsimp only; exact Nat.ne_of_lt (Nat.lt_of_lt_of_le (by have := World.block_lt_of_cell? _ _ hw330_3; first | rwa [add_block] at this | exact this) GW338.out)))).trans (hHeld.2.2.2.2.2.2.2.2.2.1)), ((cf6_ (by first | exact Nat.ne_of_lt (Nat.lt_of_lt_of_le (by have := World.block_lt_of_cell? _ _ hw330_4; first | rwa [add_block] at this | exact this) GW338.out) | (rw [add_block]; exact Nat.ne_of_lt (Nat.lt_of_lt_of_le (by have := World.block_lt_of_cell? _ _ hw330_4; first | rwa [add_block] at this | exact this) GW338.out)) | (show (Addr.add _ _).block ≠ _; rw [add_block]; exact Nat.ne_of_lt (Nat.lt_of_lt_of_le (by have := World.block_lt_of_cell? _ _ hw330_4; first | rwa [add_block] at this | exact this) GW338.out)) | (dsimp only; exact Nat.ne_of_lt (Nat.lt_of_lt_of_le (by have := World.block_lt_of_cell? _ _ hw330_4; first | rwa [add_block] at this | exact this) GW338.out)))).trans (hHeld.2.2.2.2.2.2.2.2.2.2.1)), ((cf6_ (by first | exact Nat.ne_of_lt (Nat.lt_of_lt_of_le (by have := World.block_lt_of_cell? _ _ hw330_5; first | rwa [add_block] at this | exact this) GW338.out) | (rw [add_block]; exact Nat.ne_of_lt (Nat.lt_of_lt_of_le (by have := World.block_lt_of_cell? _ _ hw330_5; first | rwa [add_block] at this | exact this) GW338.out)) | (show (Addr.add _ _).block ≠ _; rw [add_block]; exact Nat.ne_of_lt (Nat.lt_of_lt_of_le (by have := World.block_lt_of_cell? _ _ hw330_5; first | rwa [add_block] at this | exact this) GW338.out)) | (dsimp only; exact Nat.ne_of_lt (Nat.lt_of_lt_of_le (by have := World.block_lt_of_cell? _ _ hw330_5; first | rwa [add_block] at this | exact this) GW338.out)))).trans (hHeld.2.2.2.2.2.2.2.2.2.2.2))⟩ (fun hHeld => ?_)
                  clear hK K
                  refine pure_ (i := 13) (N := some 13) (v := ?_) (a' := ?_) #[true, true, true, true, true, true, true, true, true, true, true, true, true, true] rfl rfl (any_of HT_.out (by kernel_rfl)) (fun _ _ _ h => h) (Or.inl ⟨by rfl, ?_⟩) ?_ ?_
                  rotate_left
                  ·intro w'
                   go_simp
                   with_reducible rfl
                  rotate_left; (simp only [Act.put, List.setIfInBounds_toArray, List.set_cons_zero, List.set_cons_succ, i64_w, i32_w]; rfl)
                  refine done_ (done_of HT_.out (by kernel_rfl)) ?_
                  try go_wp2
                  have n0_ : Aside0 (Kd.R k65 65 ((((((w54.setCell ⟨gb338, 0, none⟩ (.int .i64 t331)).setCell ⟨gb338, 1, none⟩ (.int .i64 t332)).setCell ⟨gb338, 2, none⟩ (.int .i64 t333)).setCell ⟨gb338, 3, none⟩ (.int .i64 t334)).setCell ⟨gb338, 4, none⟩ (.int .i64 t335)).setCell ⟨gb338, 5, none⟩ (.int .i64 t336)) w.heap.size (fun _ => True) (.slice Ao50 t313.length co50) t313) := ⟨by (with_reducible repeat (first | apply Kd.R_alloc | apply Kd.R_drewN | apply Kd.R_drew)); exact Kd.R_mono (rf6 (Kd.R_types HO_5.out BK338.out (by decide)) (fun _ hk => hk.2) (.int .i64 t331) (.int .i64 t332) (.int .i64 t333) (.int .i64 t334) (.int .i64 t335) (.int .i64 t336)) (fun _ hk => trivial)⟩
                  have n1_ : Aside0 (Kd.R k28 28 ((((((w54.setCell ⟨gb338, 0, none⟩ (.int .i64 t331)).setCell ⟨gb338, 1, none⟩ (.int .i64 t332)).setCell ⟨gb338, 2, none⟩ (.int .i64 t333)).setCell ⟨gb338, 3, none⟩ (.int .i64 t334)).setCell ⟨gb338, 4, none⟩ (.int .i64 t335)).setCell ⟨gb338, 5, none⟩ (.int .i64 t336)) w.heap.size (fun k_ => k_ ≠ gb338) (.slice Ao21 t319.length co21) t319) := ⟨by (with_reducible repeat (first | apply Kd.R_alloc | apply Kd.R_drewN | apply Kd.R_drew)); exact Kd.R_mono (rf6 (Kd.R_mono HO_324002.out (fun k_ hk => (⟨hk, hk⟩ : _ ∧ k_ ≠ gb338))) (fun _ hk => hk.2) (.int .i64 t331) (.int .i64 t332) (.int .i64 t333) (.int .i64 t334) (.int .i64 t335) (.int .i64 t336)) (fun _ hk => hk.1)⟩
                  have n2_ : Aside0 (((((((w54.setCell ⟨gb338, 0, none⟩ (.int .i64 t331)).setCell ⟨gb338, 1, none⟩ (.int .i64 t332)).setCell ⟨gb338, 2, none⟩ (.int .i64 t333)).setCell ⟨gb338, 3, none⟩ (.int .i64 t334)).setCell ⟨gb338, 4, none⟩ (.int .i64 t335)).setCell ⟨gb338, 5, none⟩ (.int .i64 t336)).heap[gb311]? = some (.cells #[.int .i64 a0_0, .int .i64 a0_1, .slice (some ad326) l0_2.length c0_2] 24 (0, 0))) := ⟨by refine blk_far ?_ NB311_338.out _; refine blk_far ?_ NB311_338.out _; refine blk_far ?_ NB311_338.out _; refine blk_far ?_ NB311_338.out _; refine blk_far ?_ NB311_338.out _; refine blk_far ?_ NB311_338.out _; exact BK311.out⟩
                  have n3_ : Aside0 (((((((w54.setCell ⟨gb338, 0, none⟩ (.int .i64 t331)).setCell ⟨gb338, 1, none⟩ (.int .i64 t332)).setCell ⟨gb338, 2, none⟩ (.int .i64 t333)).setCell ⟨gb338, 3, none⟩ (.int .i64 t334)).setCell ⟨gb338, 4, none⟩ (.int .i64 t335)).setCell ⟨gb338, 5, none⟩ (.int .i64 t336)).heap[gb323]? = some (.cells #[.int .i64 t317, .int .i64 t318, .slice Ao21 t319.length co21] 24 (0, 0))) := ⟨by refine blk_far ?_ NB323_338.out _; refine blk_far ?_ NB323_338.out _; refine blk_far ?_ NB323_338.out _; refine blk_far ?_ NB323_338.out _; refine blk_far ?_ NB323_338.out _; refine blk_far ?_ NB323_338.out _; exact BK323.out⟩
                  have n4_ : Aside0 (((((((w54.setCell ⟨gb338, 0, none⟩ (.int .i64 t331)).setCell ⟨gb338, 1, none⟩ (.int .i64 t332)).setCell ⟨gb338, 2, none⟩ (.int .i64 t333)).setCell ⟨gb338, 3, none⟩ (.int .i64 t334)).setCell ⟨gb338, 4, none⟩ (.int .i64 t335)).setCell ⟨gb338, 5, none⟩ (.int .i64 t336)).heap[gb338]? = some (.cells #[.int .i64 t331, .int .i64 t332, .int .i64 t333, .int .i64 t334, .int .i64 t335, .int .i64 t336] 28 (0, 0))) := ⟨by refine blk_put (cs := #[.int .i64 t331, .int .i64 t332, .int .i64 t333, .int .i64 t334, .int .i64 t335, .int .i64 0]) ?_ 5 _ rfl; refine blk_put (cs := #[.int .i64 t331, .int .i64 t332, .int .i64 t333, .int .i64 t334, .int .i64 0, .int .i64 0]) ?_ 4 _ rfl; refine blk_put (cs := #[.int .i64 t331, .int .i64 t332, .int .i64 t333, .int .i64 0, .int .i64 0, .int .i64 0]) ?_ 3 _ rfl; refine blk_put (cs := #[.int .i64 t331, .int .i64 t332, .int .i64 0, .int .i64 0, .int .i64 0, .int .i64 0]) ?_ 2 _ rfl; refine blk_put (cs := #[.int .i64 t331, .int .i64 0, .int .i64 0, .int .i64 0, .int .i64 0, .int .i64 0]) ?_ 1 _ rfl; refine blk_put (cs := #[.int .i64 0, .int .i64 0, .int .i64 0, .int .i64 0, .int .i64 0, .int .i64 0]) ?_ 0 _ rfl; exact BK338.out⟩
                  have n5_ : Aside0 (Below w.heap.size w ((((((w54.setCell ⟨gb338, 0, none⟩ (.int .i64 t331)).setCell ⟨gb338, 1, none⟩ (.int .i64 t332)).setCell ⟨gb338, 2, none⟩ (.int .i64 t333)).setCell ⟨gb338, 3, none⟩ (.int .i64 t334)).setCell ⟨gb338, 4, none⟩ (.int .i64 t335)).setCell ⟨gb338, 5, none⟩ (.int .i64 t336))) := ⟨by repeat (with_reducible first | exact HB.out | apply pw_below_drewN | apply below_drew1 | refine below_set ?_ (Aside0.out (by assumption)))⟩
                  (try clear HO_5)
                  (try clear HO_324002)
                  (try clear BK311)
                  (try clear BK323)
                  (try clear BK338)
                  (try clear HB)
                  generalize ((((((w54.setCell ⟨gb338, 0, none⟩ (.int .i64 t331)).setCell ⟨gb338, 1, none⟩ (.int .i64 t332)).setCell ⟨gb338, 2, none⟩ (.int .i64 t333)).setCell ⟨gb338, 3, none⟩ (.int .i64 t334)).setCell ⟨gb338, 4, none⟩ (.int .i64 t335)).setCell ⟨gb338, 5, none⟩ (.int .i64 t336)) = w61 at n0_ n1_ n2_ n3_ n4_ n5_ ⊢
                  have HO_5 := n0_
                  have HO_324002 := n1_
                  have BK311 := n2_
                  have BK323 := n3_
                  have BK338 := n4_
                  have HB := n5_
                  clear n0_ n1_ n2_ n3_ n4_ n5_
                  replace HO_5 := Aside0.mk (Kd.R_drew HO_5.out)
                  replace HO_324002 := Aside0.mk (Kd.R_drew HO_324002.out)
                  replace BK311 := Aside0.mk (blk_drew BK311.out)
                  replace BK323 := Aside0.mk (blk_drew BK323.out)
                  replace BK338 := Aside0.mk (blk_drew BK338.out)
                  replace HB := Aside0.mk (below_drew1 HB.out)
                  have p339 : 0 ≤ (x9_2 : Int) := of_decide_eq_true (by first | (with_reducible assumption) | assumption)
                  have q339 : x9_2 < (l0_2.length : Int) := of_decide_eq_true (by first | (with_reducible assumption) | assumption)
                  obtain ⟨ad339, e339, hx339_0, hx339_1, hx339_2, hx339_3, hx339_4, hx339_5⟩ := at_T28 HR0_2.out x9_2 p339 q339
                  have hw339_5 := hx339_5
                  have hw339_4 := hx339_4
                  have hw339_3 := hx339_3
                  have hw339_2 := hx339_2
                  have hw339_1 := hx339_1
                  have hw339_0 := hx339_0
                  obtain rfl : ad326 = ad339 := (by injection e339)
                  replace hx339_0 := (HB.out.cell (World.block_lt_of_cell? w _ hx339_0)).trans hx339_0
                  replace hx339_1 := (HB.out.cell (World.block_lt_of_cell? w _ hx339_1)).trans hx339_1
                  replace hx339_2 := (HB.out.cell (World.block_lt_of_cell? w _ hx339_2)).trans hx339_2
                  replace hx339_3 := (HB.out.cell (World.block_lt_of_cell? w _ hx339_3)).trans hx339_3
                  replace hx339_4 := (HB.out.cell (World.block_lt_of_cell? w _ hx339_4)).trans hx339_4
                  replace hx339_5 := (HB.out.cell (World.block_lt_of_cell? w _ hx339_5)).trans hx339_5
                  replace p339 := eq_true p339
                  replace q339 := eq_true q339
                  refine start_ (n := 14) (S := fun w' => w'.cell? ⟨gb311, 0, none⟩ = some (.int .i64 a0_0) ∧ w'.cell? ⟨gb311, 1, none⟩ = some (.int .i64 a0_1) ∧ w'.cell? ⟨gb311, 2, none⟩ = some (.slice (some ad326) l0_2.length c0_2) ∧ w'.cell? (ad326.add ((x9_2).toNat * 6)) = some (.int .i64 ((rd_T28 l0_2 x9_2).f0.f0)) ∧ w'.cell? ⟨(ad326.add ((x9_2).toNat * 6)).block, (ad326.add ((x9_2).toNat * 6)).off + 1, none⟩ = some (.int .i64 ((rd_T28 l0_2 x9_2).f0.f1)) ∧ w'.cell? ⟨(ad326.add ((x9_2).toNat * 6)).block, (ad326.add ((x9_2).toNat * 6)).off + 2, none⟩ = some (.int .i64 ((rd_T28 l0_2 x9_2).f1)) ∧ w'.cell? ⟨(ad326.add ((x9_2).toNat * 6)).block, (ad326.add ((x9_2).toNat * 6)).off + 3, none⟩ = some (.int .i64 ((rd_T28 l0_2 x9_2).f2)) ∧ w'.cell? ⟨(ad326.add ((x9_2).toNat * 6)).block, (ad326.add ((x9_2).toNat * 6)).off + 4, none⟩ = some (.int .i64 ((rd_T28 l0_2 x9_2).f3)) ∧ w'.cell? ⟨(ad326.add ((x9_2).toNat * 6)).block, (ad326.add ((x9_2).toNat * 6)).off + 5, none⟩ = some (.int .i64 ((rd_T28 l0_2 x9_2).f4))) (ds := []) #[false, false, false, false, false, false, false, false, false, false, false, false, false, false] (by kernel_rfl) rfl rfl ⟨(blk_cell BK311.out 0).trans rfl, (blk_cell BK311.out 1).trans rfl, (blk_cell BK311.out 2).trans rfl, ((HB.out.cell (World.block_lt_of_cell? w _ hw339_0)).trans hw339_0), ((HB.out.cell (World.block_lt_of_cell? w _ hw339_1)).trans hw339_1), ((HB.out.cell (World.block_lt_of_cell? w _ hw339_2)).trans hw339_2), ((HB.out.cell (World.block_lt_of_cell? w _ hw339_3)).trans hw339_3), ((HB.out.cell (World.block_lt_of_cell? w _ hw339_4)).trans hw339_4), ((HB.out.cell (World.block_lt_of_cell? w _ hw339_5)).trans hw339_5)⟩ (fun hHeld => ?_); refine with_tabW watchmanlaw09_DuePass.tab17 watchmanlaw09_DuePass.bits17 (fun HT_ HW_ => ?_)
                  generalize w61.drew = w62 at HO_5 HO_324002 BK311 BK323 BK338 HB hx339_0 hx339_1 hx339_2 hx339_3 hx339_4 hx339_5 hHeld ⊢
                  have Q_ := Qs.mk (n := 14) [(0, 1, 94, 2), (0, 3, 96, 10), (0, 7, 100, 138), (2, 0, 93, 139), (2, 2, 95, 143), (0, 4, 97, 159), (0, 5, 98, 191), (2, 6, 99, 255)]
                  iterate 8 (first | (obtain ⟨q_, Q_⟩ := Qs.p Q_; refine pureQ_ q_ (v := ?_) (a' := ?_) rfl rfl (any_of HT_.out (by kernel_rfl)) (fun _ _ _ h => h) (Or.inl ⟨by rfl, ?_⟩) ?_ ?_; rotate_left; (intro w'; go_simp; with_reducible rfl); rotate_left; (simp only [Act.put, List.setIfInBounds_toArray, List.set_cons_zero, List.set_cons_succ, i64_w, i32_w]; rfl)) | (obtain ⟨q_, Q_⟩ := Qs.t Q_; refine takeQ_ q_ (v := ?_) (a' := ?_) rfl rfl (take_ofW HT_.out HW_.out (by kernel_rfl)) (fun _ _ _ h => h) (Or.inl ⟨by rfl, ?_⟩) hHeld ?_ ?_; rotate_left; (rintro w' ⟨s0, s1, s2, s3, s4, s5, s6, s7, s8⟩; go_simp; with_reducible rfl); rotate_left; (simp only [Act.put, List.setIfInBounds_toArray, List.set_cons_zero, List.set_cons_succ, i64_w, i32_w]; rfl)))
                  clear Q_
                  refine one_ (i := 8) (N := some 101) (dn_ 9 14) rfl rfl (one_of HT_.out (by kernel_rfl)) (by decide) (fun K hK => ?_)
                  refine goes_ Try.func41 (by kernel_rfl) rfl #[.agg #[.int .i64 a0_0, .int .i64 a0_1, .slice (some ad326) l0_2.length c0_2], .agg #[.int .i64 ((rd_T28 l0_2 x9_2).f0.f0), .int .i64 ((rd_T28 l0_2 x9_2).f0.f1)], .int .i64 a1] (by rfl) rfl rfl (by (try simp only [List.map_toArray, List.map_cons, List.map_nil]); first | done | rfl | (simp only [List.length_drop, List.length_take]; rfl)) ?_
                  with_reducible refine (due_At.calls k3 a0_0 a0_1 _ _ l0_2 ((rd_T28 l0_2 x9_2).f0.f0) ((rd_T28 l0_2 x9_2).f0.f1) a1 t340 true _ ?side1 ?side2 A45.out).mono ?_
                  (case side1 => exact (Kd.C_below HR0_2.out HB.out))
                  (case side2 => exact HC0_2.out)
                  rintro e w63 ⟨rfl, hb⟩
                  refine ⟨_, rfl, ?_⟩
                  replace HO_5 := rb_ HO_5 hb
                  replace HO_324002 := rb_ HO_324002 hb
                  replace BK311 := bl_ BK311 hb
                  replace BK323 := bl_ BK323 hb
                  replace BK338 := bl_ BK338 hb
                  replace HB := Aside0.mk (below_step (by repeat (with_reducible first | exact HB.out | apply pw_below_drewN | apply below_drew1 | refine below_set ?_ (Aside0.out (by assumption)))) hb)
                  (try clear hb)
                  (try clear hb2)
                  (try clear hk)
                  (try clear hi)
                  refine hK.out _ _ ⟨(blk_cell BK311.out 0).trans rfl, (blk_cell BK311.out 1).trans rfl, (blk_cell BK311.out 2).trans rfl, ((HB.out.cell (World.block_lt_of_cell? w _ hw339_0)).trans hw339_0), ((HB.out.cell (World.block_lt_of_cell? w _ hw339_1)).trans hw339_1), ((HB.out.cell (World.block_lt_of_cell? w _ hw339_2)).trans hw339_2), ((HB.out.cell (World.block_lt_of_cell? w _ hw339_3)).trans hw339_3), ((HB.out.cell (World.block_lt_of_cell? w _ hw339_4)).trans hw339_4), ((HB.out.cell (World.block_lt_of_cell? w _ hw339_5)).trans hw339_5)⟩ (fun hHeld => ?_)
                  clear hK K
                  refine norm_ (a' := ?_) ?_ ?_
                  rotate_left
                  ·show Act.put _ (some 101) _ = _
                   simp only [Act.put, List.setIfInBounds_toArray, List.set_cons_zero, List.set_cons_succ, i64_w, i32_w]
                   rfl
                  have Q_ := Qs.mk (n := 14) [(0, 9, 92, 1023), (0, 10, 102, 2047), (0, 11, 103, 4095), (0, 12, 14, 8191), (0, 13, 15, 16383)]
                  iterate 5 (first | (obtain ⟨q_, Q_⟩ := Qs.p Q_; refine pureQ_ q_ (v := ?_) (a' := ?_) rfl rfl (any_of HT_.out (by kernel_rfl)) (fun _ _ _ h => h) (Or.inl ⟨by rfl, ?_⟩) ?_ ?_; rotate_left; (intro w'; go_simp; with_reducible rfl); rotate_left; (simp only [Act.put, List.setIfInBounds_toArray, List.set_cons_zero, List.set_cons_succ, i64_w, i32_w]; rfl)))
                  clear Q_
                  refine done_ (done_of HT_.out (by kernel_rfl)) ?_
                  have hnb64 := NB338_311.out
                  have hnc64 := NB311_338.out
                  have hnb65 := NB338_323.out
                  have hnc65 := NB323_338.out
                  have hcz66_0 : w63.cell? ⟨gb338, 0, none⟩ = some (.int .i64 t331) := (blk_cell BK338.out 0).trans rfl
                  have hcz66_1 : w63.cell? ⟨gb338, 1, none⟩ = some (.int .i64 t332) := (blk_cell BK338.out 1).trans rfl
                  have hcz66_2 : w63.cell? ⟨gb338, 2, none⟩ = some (.int .i64 t333) := (blk_cell BK338.out 2).trans rfl
                  have hcz66_3 : w63.cell? ⟨gb338, 3, none⟩ = some (.int .i64 t334) := (blk_cell BK338.out 3).trans rfl
                  have hcz66_4 : w63.cell? ⟨gb338, 4, none⟩ = some (.int .i64 t335) := (blk_cell BK338.out 4).trans rfl
                  have hcz66_5 : w63.cell? ⟨gb338, 5, none⟩ = some (.int .i64 t336) := (blk_cell BK338.out 5).trans rfl
                  have hfz66_0 := blk_frozen BK338.out 0
                  have hfz66_1 := blk_frozen BK338.out 1
                  have hfz66_2 := blk_frozen BK338.out 2
                  have hfz66_3 := blk_frozen BK338.out 3
                  have hfz66_4 := blk_frozen BK338.out 4
                  have hfz66_5 := blk_frozen BK338.out 5
                  try go_wp2
                  go_roundg k3
                  case measure => have := HJ9.out; have := HK2.out; have := HK3.out; omega
                  case rel => exact ⟨(wrap64 (x9_2 + 1)), (by first | rfl | (simp; done) | (simp [*]; done)), H', ⟨by have := HJ9.out; have := HK2.out; have := HK3.out; omega⟩, ⟨by (with_reducible repeat (first | apply Kd.R_alloc | apply Kd.R_drewN | apply Kd.R_drew)); exact HO_5.out⟩, ⟨by (with_reducible repeat (first | apply Kd.R_alloc | apply Kd.R_drewN | apply Kd.R_drew)); exact Kd.R_mono HO_324002.out (fun _ hk => trivial)⟩, ⟨by (with_reducible repeat (first | refine blk_drewN ?_ _ | refine blk_drew ?_ | refine blk_alloc ?_ _)); exact BK311.out⟩, ⟨by (with_reducible repeat (first | refine blk_drewN ?_ _ | refine blk_drew ?_ | refine blk_alloc ?_ _)); exact BK323.out⟩, ⟨by repeat (with_reducible first | exact HB.out | apply pw_below_drewN | apply below_drew1 | refine below_set ?_ (Aside0.out (by assumption)))⟩⟩
                 ·rw [if_neg c49] at H
                  exact absurd H (by simp)
                ·rw [if_neg c48] at H
                 exact absurd H (by simp)
               ·replace c47 := Bool.eq_false_iff.mpr c47
                subst c47
                rw [if_neg (show ¬ (false = true) by decide)] at H; try dsimp only at H
                exact absurd H (by simp)
              ·replace c46 := Bool.eq_false_iff.mpr c46
               subst c46
               rw [if_neg (show ¬ (false = true) by decide)] at H; try dsimp only at H
               exact absurd H (by simp)
             ·rw [if_neg c43] at H
              exact absurd H (by simp)
            ·rw [if_neg c42] at H
             exact absurd H (by simp)
        ·rw [if_neg c30] at H
         exact absurd H (by simp)
       ·rw [if_neg c29] at H
        have c29b0 : decide (x9_2 < (l0_2.length : Int)) = false := decide_eq_false c29
        clear c29
        replace H := Option.bind_eq_some_iff.mp H
        obtain ⟨t325, A670, H⟩ := H
        try dsimp only at H
        have A67 := Aside0.mk A670
        clear A670
        obtain rfl := Option.some.inj H
        have hnb68 := NB311_323.out
        have hnc68 := NB323_311.out
        have hcz69_0 : wr.cell? ⟨gb311, 0, none⟩ = some (.int .i64 a0_0) := (blk_cell BK311.out 0).trans rfl
        have hcz69_1 : wr.cell? ⟨gb311, 1, none⟩ = some (.int .i64 a0_1) := (blk_cell BK311.out 1).trans rfl
        have hcz69_2 : wr.cell? ⟨gb311, 2, none⟩ = some (.slice A0_2 l0_2.length c0_2) := (blk_cell BK311.out 2).trans rfl
        have hfz69_0 := blk_frozen BK311.out 0
        have hfz69_1 := blk_frozen BK311.out 1
        have hfz69_2 := blk_frozen BK311.out 2
        go_wp2_with (first | ((with_reducible refine gate_callee (f := 46) rfl ?_); refine goesL_ (some 121) rfl rfl Try.func46 (by kernel_rfl) rfl #[] rfl (by (try simp only [List.map_toArray, List.map_cons, List.map_nil]); first | done | rfl | (simp only [List.length_drop, List.length_take]; rfl)) ?_; (with_reducible refine (watchmanlaw09_coming.calls  t325 _ A67.out).mono ?_); rintro e w70 ⟨rfl, hb⟩; refine ⟨_, rfl, ?_⟩; replace HO_5 := rb_ HO_5 hb; replace HO_324002 := rb_ HO_324002 hb; replace BK311 := bl_ BK311 hb; replace BK323 := bl_ BK323 hb; replace HB := Aside0.mk (below_step (by repeat (with_reducible first | exact HB.out | apply pw_below_drewN | apply below_drew1 | refine below_set ?_ (Aside0.out (by assumption)))) hb); (try clear hb); (try clear hb2); (try clear hk); (try clear hi)))
        go_ret
        exact ⟨by first | rfl | (simp [errW_none, errW_some] <;> rfl) | (simp [*, errW_none, errW_some] <;> rfl), by repeat (with_reducible first | exact HB.out | apply pw_below_drewN | apply below_drew1 | refine below_set ?_ (Aside0.out (by assumption)))⟩

end Go.Proofs.Ytcfpbmdndapeaaa.F
