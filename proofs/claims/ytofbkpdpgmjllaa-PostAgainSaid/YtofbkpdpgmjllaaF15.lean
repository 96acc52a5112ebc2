-- Written by a program of this session (xprint.py), out of the translation and of contracts proved by hand.
import Derived.Test.YtofbkpdpgmjllaaF0
import Derived.Test.YtofbkpdpgmjllaaF3
import Derived.Test.YtofbkpdpgmjllaaF5
import Derived.Test.YtofbkpdpgmjllaaF8
import Derived.Test.YtofbkpdpgmjllaaF10
import Derived.Test.YtofbkpdpgmjllaaF11
namespace Go.Proofs.Ytofbkpdpgmjllaa.F
open Go.RowKit Go.Proofs.YtofbkpdpgmjllaaW.PrintWords Go.Proofs.YtofbkpdpgmjllaaW.PrintLast Go.Proofs.YtofbkpdpgmjllaaW.PrintMore
attribute [local go_sem] max2_int min2_int max_two min_two max_three min_three max_four min_four   -- for this text's walks alone
set_option linter.unusedVariables false
set_option linter.unusedSimpArgs false

/-! ### watchmanlaw21_PostAgain: function 7 -/
mutual
def watchmanlaw21_PostAgain.j0 : Nat → Int → Int → Int → Bool → Int → List (S35) → Int → Int → Int → ByteArray → Int → List (S35) → Option (Bool)
  | 0, _, _, _, _, _, _, _, _, _, _, _, _ => none
  | k + 1, x7, x9, x10, x34, x260000, x260001, x272000, x272001, x272002, x272003, x279000, x279001 => if x34 = true then ((watchmanlaw21_posted.f k).bind fun t279 => (if t279 = true then (if x7 = x10 then (some true) else (some (x10 == 2))) else (none))) else (if (wrap64 ((x279001.length : Int) + x9)) = (wrap64 ((x260001.length : Int) + 1)) then (watchmanlaw21_PostAgain.j1 k (x279001.length : Int) (x279000 != (wrap64 (x260000 + 1))) x260000 x260001 x272000 x272001 x272002 x272003 x279000 x279001) else (none))
def watchmanlaw21_PostAgain.j1 : Nat → Int → Bool → Int → List (S35) → Int → Int → Int → ByteArray → Int → List (S35) → Option (Bool)
  | 0, _, _, _, _, _, _, _, _, _, _ => none
  | k + 1, x11, x63, x260000, x260001, x272000, x272001, x272002, x272003, x279000, x279001 => if x63 = true then (none) else (if x11 = 0 then (watchmanlaw21_PostAgain.j2 k x11 true x260000 x260001 x272000 x272001 x272002 x272003 x279000 x279001) else (if 0 ≤ (wrap64 (x11 - 1)) then (if (wrap64 (x11 - 1)) < (x279001.length : Int) then (watchmanlaw21_PostAgain.j2 k x11 (((rd_T35 x279001 (wrap64 (x11 - 1))).f0) != x260000) x260000 x260001 x272000 x272001 x272002 x272003 x279000 x279001) else (none)) else (none)))
def watchmanlaw21_PostAgain.j2 : Nat → Int → Bool → Int → List (S35) → Int → Int → Int → ByteArray → Int → List (S35) → Option (Bool)
  | 0, _, _, _, _, _, _, _, _, _, _ => none
  | k + 1, x11, x77, x260000, x260001, x272000, x272001, x272002, x272003, x279000, x279001 => if x77 = true then ((watchmanlaw21_posted.f k).bind fun t281 => (if t281 = true then (some ((x260001.length : Int) == 200)) else (none))) else (if 0 ≤ (wrap64 (x11 - 1)) then (if (wrap64 (x11 - 1)) < (x279001.length : Int) then ((watchmanlaw21_posted.f k).bind fun t284 => (if t284 = true then (if ((rd_T35 x279001 (wrap64 (x11 - 1))).f1) = x272001 then (if ((rd_T35 x279001 (wrap64 (x11 - 1))).f2) = x272002 then (if ((rd_T35 x279001 (wrap64 (x11 - 1))).f3).toList = x272003.toList then ((post_To.f x279000 x279001 x272002).bind fun t285 => ((post_To.f x260000 x260001 x272002).bind fun t288 => (some (decide ((t285.length : Int) ≤ (mx 20 (t288.length : Int))))))) else (none)) else (none)) else (none)) else (none))) else (none)) else (none))
end
def watchmanlaw21_PostAgain.f (k : Nat) (a0_0 : Int) (l0_1 : List (S35)) (a1 : Int) : Option (Bool) := (watchmanlaw21_far.f k a0_0 l0_1 ([] : List ByteArray)).bind fun t260 => (if t260 = true then (some true) else ((post_Take.f k a0_0 l0_1 a1).bind fun bt261 => ((post_Again.f k a0_0 l0_1 a1).bind fun bt272 => (if bt261.2.2.2.2.2.2 = 0 then (watchmanlaw21_PostAgain.j0 k bt261.2.2.2.2.2.2 bt272.2.2.1 bt272.2.2.2 (bt272.2.2.2 != 0) a0_0 l0_1 bt261.2.2.1 bt261.2.2.2.1 bt261.2.2.2.2.1 bt261.2.2.2.2.2.1 bt272.1 bt272.2.1) else (watchmanlaw21_PostAgain.j0 k bt261.2.2.2.2.2.2 bt272.2.2.1 bt272.2.2.2 true a0_0 l0_1 bt261.2.2.1 bt261.2.2.2.1 bt261.2.2.2.2.1 bt261.2.2.2.2.2.1 bt272.1 bt272.2.1)))))
theorem watchmanlaw21_PostAgain.mono_l : ∀ k, (∀ y0 y1 y2 y3 y4 y5 y6 y7 y8 y9 y10 y11, LeO (watchmanlaw21_PostAgain.j0 k y0 y1 y2 y3 y4 y5 y6 y7 y8 y9 y10 y11) (watchmanlaw21_PostAgain.j0 (k + 1) y0 y1 y2 y3 y4 y5 y6 y7 y8 y9 y10 y11)) ∧ (∀ y0 y1 y2 y3 y4 y5 y6 y7 y8 y9, LeO (watchmanlaw21_PostAgain.j1 k y0 y1 y2 y3 y4 y5 y6 y7 y8 y9) (watchmanlaw21_PostAgain.j1 (k + 1) y0 y1 y2 y3 y4 y5 y6 y7 y8 y9)) ∧ (∀ y0 y1 y2 y3 y4 y5 y6 y7 y8 y9, LeO (watchmanlaw21_PostAgain.j2 k y0 y1 y2 y3 y4 y5 y6 y7 y8 y9) (watchmanlaw21_PostAgain.j2 (k + 1) y0 y1 y2 y3 y4 y5 y6 y7 y8 y9))
  | 0 => ⟨fun _ _ _ _ _ _ _ _ _ _ _ _ r h => by simp [watchmanlaw21_PostAgain.j0] at h, fun _ _ _ _ _ _ _ _ _ _ r h => by simp [watchmanlaw21_PostAgain.j1] at h, fun _ _ _ _ _ _ _ _ _ _ r h => by simp [watchmanlaw21_PostAgain.j2] at h⟩
  | k + 1 => by
    obtain ⟨ih0, ih1, ih2⟩ := watchmanlaw21_PostAgain.mono_l k
    refine ⟨?_, ?_, ?_⟩
    · intro y0 y1 y2 y3 y4 y5 y6 y7 y8 y9 y10 y11
      unfold watchmanlaw21_PostAgain.j0
      repeat' first
      | (with_reducible exact ih0 _ _ _ _ _ _ _ _ _ _ _ _)
      | (with_reducible exact ih1 _ _ _ _ _ _ _ _ _ _)
      | (with_reducible exact ih2 _ _ _ _ _ _ _ _ _ _)
      | (with_reducible exact post_Again.mono _ _ _ _)
      | (with_reducible exact post_Take.mono _ _ _ _)
      | (with_reducible exact watchmanlaw21_far.mono _ _ _ _)
      | (with_reducible exact watchmanlaw21_posted.mono _)
      | (with_reducible exact LeO.refl _)
      | (with_reducible exact LeO.none _)
      | (with_reducible refine LeO.ite ?_ ?_)
      | (with_reducible refine LeO.bind ?_ (fun _ => ?_))
      | exact ih0 _ _ _ _ _ _ _ _ _ _ _ _
      | exact ih1 _ _ _ _ _ _ _ _ _ _
      | exact ih2 _ _ _ _ _ _ _ _ _ _
      | exact post_Again.mono _ _ _ _
      | exact post_Take.mono _ _ _ _
      | exact watchmanlaw21_far.mono _ _ _ _
      | exact watchmanlaw21_posted.mono _
      | exact LeO.none _
      | refine LeO.ite ?_ ?_
      | refine LeO.bind ?_ (fun _ => ?_)
    · intro y0 y1 y2 y3 y4 y5 y6 y7 y8 y9
      unfold watchmanlaw21_PostAgain.j1
      repeat' first
      | (with_reducible exact ih0 _ _ _ _ _ _ _ _ _ _ _ _)
      | (with_reducible exact ih1 _ _ _ _ _ _ _ _ _ _)
      | (with_reducible exact ih2 _ _ _ _ _ _ _ _ _ _)
      | (with_reducible exact post_Again.mono _ _ _ _)
      | (with_reducible exact post_Take.mono _ _ _ _)
      | (with_reducible exact watchmanlaw21_far.mono _ _ _ _)
      | (with_reducible exact watchmanlaw21_posted.mono _)
      | (with_reducible exact LeO.refl _)
      | (with_reducible exact LeO.none _)
      | (with_reducible refine LeO.ite ?_ ?_)
      | (with_reducible refine LeO.bind ?_ (fun _ => ?_))
      | exact ih0 _ _ _ _ _ _ _ _ _ _ _ _
      | exact ih1 _ _ _ _ _ _ _ _ _ _
      | exact ih2 _ _ _ _ _ _ _ _ _ _
      | exact post_Again.mono _ _ _ _
      | exact post_Take.mono _ _ _ _
      | exact watchmanlaw21_far.mono _ _ _ _
      | exact watchmanlaw21_posted.mono _
      | exact LeO.none _
      | refine LeO.ite ?_ ?_
      | refine LeO.bind ?_ (fun _ => ?_)
    · intro y0 y1 y2 y3 y4 y5 y6 y7 y8 y9
      unfold watchmanlaw21_PostAgain.j2
      repeat' first
      | (with_reducible exact ih0 _ _ _ _ _ _ _ _ _ _ _ _)
      | (with_reducible exact ih1 _ _ _ _ _ _ _ _ _ _)
      | (with_reducible exact ih2 _ _ _ _ _ _ _ _ _ _)
      | (with_reducible exact post_Again.mono _ _ _ _)
      | (with_reducible exact post_Take.mono _ _ _ _)
      | (with_reducible exact watchmanlaw21_far.mono _ _ _ _)
      | (with_reducible exact watchmanlaw21_posted.mono _)
      | (with_reducible exact LeO.refl _)
      | (with_reducible exact LeO.none _)
      | (with_reducible refine LeO.ite ?_ ?_)
      | (with_reducible refine LeO.bind ?_ (fun _ => ?_))
      | exact ih0 _ _ _ _ _ _ _ _ _ _ _ _
      | exact ih1 _ _ _ _ _ _ _ _ _ _
      | exact ih2 _ _ _ _ _ _ _ _ _ _
      | exact post_Again.mono _ _ _ _
      | exact post_Take.mono _ _ _ _
      | exact watchmanlaw21_far.mono _ _ _ _
      | exact watchmanlaw21_posted.mono _
      | exact LeO.none _
      | refine LeO.ite ?_ ?_
      | refine LeO.bind ?_ (fun _ => ?_)
theorem watchmanlaw21_PostAgain.mono : ∀ a0 a1 a2 k, LeO (watchmanlaw21_PostAgain.f k a0 a1 a2) (watchmanlaw21_PostAgain.f (k + 1) a0 a1 a2) := by
  intro a0 a1 a2 k
  obtain ⟨ih0, ih1, ih2⟩ := watchmanlaw21_PostAgain.mono_l k
  unfold watchmanlaw21_PostAgain.f
  repeat' first
      | (with_reducible exact ih0 _ _ _ _ _ _ _ _ _ _ _ _)
      | (with_reducible exact ih1 _ _ _ _ _ _ _ _ _ _)
      | (with_reducible exact ih2 _ _ _ _ _ _ _ _ _ _)
      | (with_reducible exact post_Again.mono _ _ _ _)
      | (with_reducible exact post_Take.mono _ _ _ _)
      | (with_reducible exact watchmanlaw21_far.mono _ _ _ _)
      | (with_reducible exact watchmanlaw21_posted.mono _)
      | (with_reducible exact LeO.refl _)
      | (with_reducible exact LeO.none _)
      | (with_reducible refine LeO.ite ?_ ?_)
      | (with_reducible refine LeO.bind ?_ (fun _ => ?_))
      | exact ih0 _ _ _ _ _ _ _ _ _ _ _ _
      | exact ih1 _ _ _ _ _ _ _ _ _ _
      | exact ih2 _ _ _ _ _ _ _ _ _ _
      | exact post_Again.mono _ _ _ _
      | exact post_Take.mono _ _ _ _
      | exact watchmanlaw21_far.mono _ _ _ _
      | exact watchmanlaw21_posted.mono _
      | exact LeO.none _
      | refine LeO.ite ?_ ?_
      | refine LeO.bind ?_ (fun _ => ?_)
def watchmanlaw21_PostAgain.T10 : Bool × List (List Nat × List Nat) := (true, [([], []), ([0], [0]), ([1], [1]), ([2], [2]), ([3, 2], [2, 3]), ([2], [2]), ([5, 2], [2, 5]), ([4, 6, 2], [2, 4, 6]), ([7, 2], [2, 7]), ([8, 2], [2, 8]), ([2], [2]), ([10, 2], [2, 10]), ([9, 11, 2], [2, 9, 11]), ([2, 12], [2, 12])])
def watchmanlaw21_PostAgain.B10 : List Nat := [0, 1, 3, 7, 15, 7, 39, 127, 255, 511, 7, 1031, 4095, 8191]
theorem watchmanlaw21_PostAgain.tab10 : rtab .any (opsOf Try.f7 10) = watchmanlaw21_PostAgain.T10 := by kernel_rfl
theorem watchmanlaw21_PostAgain.bits10 : waitsOk watchmanlaw21_PostAgain.T10.2 watchmanlaw21_PostAgain.B10 = true := by kernel_rfl
def watchmanlaw21_PostAgain.T13 : Bool × List (List Nat × List Nat) := (true, [([], []), ([0, 0], [0]), ([1], [1]), ([2, 1], [1, 2]), ([1], [1]), ([4, 1], [1, 4]), ([3, 5, 1], [1, 3, 5]), ([1, 6], [1, 6]), ([7, 1], [7]), ([8], [8]), ([9, 8], [8, 9]), ([8], [8]), ([11, 8], [8, 11]), ([10, 12, 8], [8, 10, 12]), ([8, 13], [8, 13]), ([14, 8], [14]), ([15], [15]), ([16, 15], [15, 16]), ([15], [15]), ([18, 15], [15, 18]), ([17, 19, 15], [15, 17, 19]), ([15, 20], [15, 20]), ([21, 15], [21]), ([22], [22]), ([22], [22]), ([24, 22], [22, 24]), ([23, 25, 22, 22], [22, 23, 25]), ([26, 22], [22, 26]), ([22], [22]), ([22], [22]), ([29, 22], [22, 29]), ([28, 30, 26, 22], [22, 28, 30]), ([31, 22], [22, 31]), ([32, 22], [22, 32]), ([27, 33, 22], [22, 27, 33]), ([22, 34], [22, 34]), ([35, 31, 0, 1, 2, 3, 4, 5, 6, 7, 8, 9, 10, 11, 12, 13, 14, 15, 16, 17, 18, 19, 20, 21, 22, 23, 24, 25, 26, 27, 28, 29, 30, 31, 32, 33, 34, 35], [35])])
def watchmanlaw21_PostAgain.B13 : List Nat := [0, 1, 3, 7, 3, 19, 63, 127, 255, 511, 1023, 511, 2559, 8191, 16383, 32767, 65535, 131071, 65535, 327679, 1048575, 2097151, 4194303, 8388607, 8388607, 25165823, 67108863, 134217727, 8388607, 8388607, 545259519, 2013265919, 4160749567, 8455716863, 17179869183, 34359738367, 68719476735]
theorem watchmanlaw21_PostAgain.tab13 : rtab .any (opsOf Try.f7 13) = watchmanlaw21_PostAgain.T13 := by kernel_rfl
theorem watchmanlaw21_PostAgain.bits13 : waitsOk watchmanlaw21_PostAgain.T13.2 watchmanlaw21_PostAgain.B13 = true := by kernel_rfl
set_option maxHeartbeats 8000000 in
set_option maxRecDepth 100000 in
theorem watchmanlaw21_PostAgain.calls (k : Nat) (a0_0 : Int) (A0_1 : Option Addr) (c0_1 : Nat) (l0_1 : List (S35)) (a1 : Int) (r : Bool) (w : World) (hr0_1 : Kd.C k35 w A0_1 l0_1.length l0_1) (hc0_1 : l0_1.length ≤ c0_1) (h : watchmanlaw21_PostAgain.f k a0_0 l0_1 a1 = some r) :
    Calls Try.prog 7 #[.agg #[.int .i64 a0_0, .slice A0_1 l0_1.length c0_1], .int .i64 a1] w fun e w' => e = .returned (.bool r) ∧ Below w.heap.size w w' := by
  have hu24 := Try.underlying24
  have hu35 := Try.underlying35
  have HR0_1 := Aside0.mk hr0_1
  have HC0_1 := Aside0.mk hc0_1
  clear hr0_1 hc0_1
  have HB := Aside0.mk (Below.refl w.heap.size w)
  have H : ((watchmanlaw21_far.f k a0_0 l0_1 ([] : List ByteArray)).bind fun t260 => (if t260 = true then (some true) else ((post_Take.f k a0_0 l0_1 a1).bind fun bt261 => ((post_Again.f k a0_0 l0_1 a1).bind fun bt272 => (if bt261.2.2.2.2.2.2 = 0 then (watchmanlaw21_PostAgain.j0 k bt261.2.2.2.2.2.2 bt272.2.2.1 bt272.2.2.2 (bt272.2.2.2 != 0) a0_0 l0_1 bt261.2.2.1 bt261.2.2.2.1 bt261.2.2.2.2.1 bt261.2.2.2.2.2.1 bt272.1 bt272.2.1) else (watchmanlaw21_PostAgain.j0 k bt261.2.2.2.2.2.2 bt272.2.2.1 bt272.2.2.2 true a0_0 l0_1 bt261.2.2.1 bt261.2.2.2.1 bt261.2.2.2.2.1 bt261.2.2.2.2.2.1 bt272.1 bt272.2.1)))))) = some r := h
  clear h
  replace H := Option.bind_eq_some_iff.mp H
  obtain ⟨t260, A30, H⟩ := H
  replace H : (if t260 = true then (some true) else ((post_Take.f k a0_0 l0_1 a1).bind fun bt261 => ((post_Again.f k a0_0 l0_1 a1).bind fun bt272 => (if bt261.2.2.2.2.2.2 = 0 then (watchmanlaw21_PostAgain.j0 k bt261.2.2.2.2.2.2 bt272.2.2.1 bt272.2.2.2 (bt272.2.2.2 != 0) a0_0 l0_1 bt261.2.2.1 bt261.2.2.2.1 bt261.2.2.2.2.1 bt261.2.2.2.2.2.1 bt272.1 bt272.2.1) else (watchmanlaw21_PostAgain.j0 k bt261.2.2.2.2.2.2 bt272.2.2.1 bt272.2.2.2 true a0_0 l0_1 bt261.2.2.1 bt261.2.2.2.1 bt261.2.2.2.2.1 bt261.2.2.2.2.2.1 bt272.1 bt272.2.1))))) = some r := H
  have A3 := Aside0.mk A30
  clear A30
  by_cases c4 : t260 = true
  · subst c4
    have H1 : (some true) = some r := by rw [if_pos rfl] at H; exact H
    clear H
    have H := H1
    clear H1
    obtain rfl := Option.some.inj H
    go_enter Try.func7, Try.ntmps7
    go_wp2_with (first | ((with_reducible refine gate_dst (N := 2) rfl ?_); (try (refine gate_guard (by rfl) ?_; dsimp only)); refine box_event ?hg (N := 2) ?hd (cs := #[.int .i64 a0_0, .slice A0_1 l0_1.length c0_1]) (t := 24) ?hr ?_; (case hd => rfl); (case hg => rfl); (case hr => first | (go_simp; done) | (go_simp; rfl)); intro gb259 hg w5 hbox hb; have n0_ := Aside0.mk (below_step HB.out hb); have n1_ := Aside0.mk (hbox); have n2_ := Aside0.mk ((by rw [hg]; exact (below_size HB.out) : w.heap.size ≤ gb259)); have n3_ := Aside0.mk ((by rw [hg]; exact (below_size HB.out) : w.heap.size ≤ gb259)); clear HB; have HB := n0_; have BK259 := n1_; have GW259 := n2_; have GE259 := n3_; clear n0_ n1_ n2_ n3_; clear hb hbox hg; have hcz6_0 : w5.cell? ⟨gb259, 0, none⟩ = some (.int .i64 a0_0) := (blk_cell BK259.out 0).trans rfl; have hcz6_1 : w5.cell? ⟨gb259, 1, none⟩ = some (.slice A0_1 l0_1.length c0_1) := (blk_cell BK259.out 1).trans rfl; have hfz6_0 := blk_frozen BK259.out 0; have hfz6_1 := blk_frozen BK259.out 1) | ((with_reducible refine gate_callee (f := 8) rfl ?_); refine goesL_ (some 14) rfl rfl Try.func8 (by kernel_rfl) rfl #[.agg #[.int .i64 a0_0, .slice A0_1 l0_1.length c0_1], .slice none 0 0] rfl (by (try simp only [List.map_toArray, List.map_cons, List.map_nil]); first | done | rfl | (simp only [List.length_drop, List.length_take]; rfl)) ?_; (refine (watchmanlaw21_far.calls k a0_0 _ _ l0_1 _ _ ([] : List ByteArray) true _ ?side1 ?side2 ?side3 ?side4 A3.out).mono ?_); (case side1 => exact (Kd.C_below HR0_1.out HB.out)); (case side2 => exact HC0_1.out); (case side3 => exact Kd.C_nil _ _); (case side4 => exact Nat.le_refl _); rintro e w7 ⟨rfl, hb⟩; refine ⟨_, rfl, ?_⟩; have n0_ := Aside0.mk (blk_below BK259.out hb); have n1_ := Aside0.mk (below_step (by repeat (with_reducible first | exact HB.out | apply pw_below_drewN | apply below_drew1 | refine below_set ?_ GE259.out)) hb); clear BK259; clear HB; have BK259 := n0_; have HB := n1_; clear n0_ n1_; (try clear hb); (try clear hb2); (try clear hk); (try clear hi)))
    go_ret
    exact ⟨by first | rfl | (simp [errW_none, errW_some] <;> rfl) | (simp [*, errW_none, errW_some] <;> rfl), by repeat (with_reducible first | exact HB.out | apply pw_below_drewN | apply below_drew1 | refine below_set ?_ GE259.out)⟩
  · replace c4 := Bool.eq_false_iff.mpr c4
    subst c4
    have H1 : ((post_Take.f k a0_0 l0_1 a1).bind fun bt261 => ((post_Again.f k a0_0 l0_1 a1).bind fun bt272 => (if bt261.2.2.2.2.2.2 = 0 then (watchmanlaw21_PostAgain.j0 k bt261.2.2.2.2.2.2 bt272.2.2.1 bt272.2.2.2 (bt272.2.2.2 != 0) a0_0 l0_1 bt261.2.2.1 bt261.2.2.2.1 bt261.2.2.2.2.1 bt261.2.2.2.2.2.1 bt272.1 bt272.2.1) else (watchmanlaw21_PostAgain.j0 k bt261.2.2.2.2.2.2 bt272.2.2.1 bt272.2.2.2 true a0_0 l0_1 bt261.2.2.1 bt261.2.2.2.1 bt261.2.2.2.2.1 bt261.2.2.2.2.2.1 bt272.1 bt272.2.1)))) = some r := by rw [if_neg (show ¬ (false = true) by decide)] at H; exact H
    clear H
    have H := H1
    clear H1
    replace H := Option.bind_eq_some_iff.mp H
    obtain ⟨⟨t261, t262, t265, t266, t267, t268, t269⟩, A80, H⟩ := H
    replace H : ((post_Again.f k a0_0 l0_1 a1).bind fun bt272 => (if t269 = 0 then (watchmanlaw21_PostAgain.j0 k t269 bt272.2.2.1 bt272.2.2.2 (bt272.2.2.2 != 0) a0_0 l0_1 t265 t266 t267 t268 bt272.1 bt272.2.1) else (watchmanlaw21_PostAgain.j0 k t269 bt272.2.2.1 bt272.2.2.2 true a0_0 l0_1 t265 t266 t267 t268 bt272.1 bt272.2.1))) = some r := H
    have A8 := Aside0.mk A80
    clear A80
    replace H := Option.bind_eq_some_iff.mp H
    obtain ⟨⟨t272, t273, t276, t277⟩, A90, H⟩ := H
    replace H : (if t269 = 0 then (watchmanlaw21_PostAgain.j0 k t269 t276 t277 (t277 != 0) a0_0 l0_1 t265 t266 t267 t268 t272 t273) else (watchmanlaw21_PostAgain.j0 k t269 t276 t277 true a0_0 l0_1 t265 t266 t267 t268 t272 t273)) = some r := H
    have A9 := Aside0.mk A90
    clear A90
    have HC10 := Aside0.mk H
    clear H
    go_enter Try.func7, Try.ntmps7
    go_upto_region 5 with (first | ((with_reducible refine gate_dst (N := 2) rfl ?_); (try (refine gate_guard (by rfl) ?_; dsimp only)); refine box_event ?hg (N := 2) ?hd (cs := #[.int .i64 a0_0, .slice A0_1 l0_1.length c0_1]) (t := 24) ?hr ?_; (case hd => rfl); (case hg => rfl); (case hr => first | (go_simp; done) | (go_simp; rfl)); intro gb259 hg w11 hbox hb; have n0_ := Aside0.mk (below_step HB.out hb); have n1_ := Aside0.mk (hbox); have n2_ := Aside0.mk ((by rw [hg]; exact (below_size HB.out) : w.heap.size ≤ gb259)); have n3_ := Aside0.mk ((by rw [hg]; exact (below_size HB.out) : w.heap.size ≤ gb259)); clear HB; have HB := n0_; have BK259 := n1_; have GW259 := n2_; have GE259 := n3_; clear n0_ n1_ n2_ n3_; clear hb hbox hg; have hcz12_0 : w11.cell? ⟨gb259, 0, none⟩ = some (.int .i64 a0_0) := (blk_cell BK259.out 0).trans rfl; have hcz12_1 : w11.cell? ⟨gb259, 1, none⟩ = some (.slice A0_1 l0_1.length c0_1) := (blk_cell BK259.out 1).trans rfl; have hfz12_0 := blk_frozen BK259.out 0; have hfz12_1 := blk_frozen BK259.out 1) | ((with_reducible refine gate_callee (f := 8) rfl ?_); refine goesL_ (some 14) rfl rfl Try.func8 (by kernel_rfl) rfl #[.agg #[.int .i64 a0_0, .slice A0_1 l0_1.length c0_1], .slice none 0 0] rfl (by (try simp only [List.map_toArray, List.map_cons, List.map_nil]); first | done | rfl | (simp only [List.length_drop, List.length_take]; rfl)) ?_; (refine (watchmanlaw21_far.calls k a0_0 _ _ l0_1 _ _ ([] : List ByteArray) false _ ?side1 ?side2 ?side3 ?side4 A3.out).mono ?_); (case side1 => exact (Kd.C_below HR0_1.out HB.out)); (case side2 => exact HC0_1.out); (case side3 => exact Kd.C_nil _ _); (case side4 => exact Nat.le_refl _); rintro e w13 ⟨rfl, hb⟩; refine ⟨_, rfl, ?_⟩; have n0_ := Aside0.mk (blk_below BK259.out hb); have n1_ := Aside0.mk (below_step (by repeat (with_reducible first | exact HB.out | apply pw_below_drewN | apply below_drew1 | refine below_set ?_ GE259.out)) hb); clear BK259; clear HB; have BK259 := n0_; have HB := n1_; clear n0_ n1_; (try clear hb); (try clear hb2); (try clear hk); (try clear hi); have hcz14_0 : w13.cell? ⟨gb259, 0, none⟩ = some (.int .i64 a0_0) := (blk_cell BK259.out 0).trans rfl; have hcz14_1 : w13.cell? ⟨gb259, 1, none⟩ = some (.slice A0_1 l0_1.length c0_1) := (blk_cell BK259.out 1).trans rfl; have hfz14_0 := blk_frozen BK259.out 0; have hfz14_1 := blk_frozen BK259.out 1) | ((with_reducible refine gate_callee (f := 13) rfl ?_); refine goesL_ (some 18) rfl rfl Try.func13 (by kernel_rfl) rfl #[.agg #[.int .i64 a0_0, .slice A0_1 l0_1.length c0_1], .int .i64 a1] rfl (by (try simp only [List.map_toArray, List.map_cons, List.map_nil]); first | done | rfl | (simp only [List.length_drop, List.length_take]; rfl)) ?_; (with_reducible refine (post_Take.calls k a0_0 _ _ l0_1 a1 t261 t262 t265 t266 t267 t268 t269 _ ?side1 ?side2 A8.out).mono ?_); (case side1 => exact (Kd.C_below HR0_1.out HB.out)); (case side2 => exact HC0_1.out); rintro e w15 ⟨v263, rfl, ho0, hb⟩; refine ⟨_, rfl, ?_⟩; have n0_ := Aside0.mk (Kd.R_lower ho0 (below_size (by repeat (with_reducible first | exact HB.out | apply pw_below_drewN | apply below_drew1 | refine below_set ?_ GE259.out)))); have n1_ := Aside0.mk (blk_below BK259.out hb); have n2_ := Aside0.mk (below_step (by repeat (with_reducible first | exact HB.out | apply pw_below_drewN | apply below_drew1 | refine below_set ?_ GE259.out)) hb); clear BK259; clear HB; have HO264 := n0_; have BK259 := n1_; have HB := n2_; clear n0_ n1_ n2_; (try clear hb); (try clear hb2); (try clear hk); (try clear hi); (try clear ho0)) | ((with_reducible refine gate_dst (N := 5) rfl ?_); (try (refine gate_guard (by rfl) ?_; dsimp only)); refine box_event ?hg (N := 5) ?hd (cs := #[.int .i64 0, .slice none 0 0]) (t := 24) ?hr ?_; (case hd => rfl); (case hg => rfl); (case hr => first | (go_simp; done) | (go_simp; rfl)); intro gb270 hg w16 hbox hb; have n0_ := Aside0.mk (Kd.R_below (HO264.out) hb); have n1_ := Aside0.mk (blk_below BK259.out hb); have n2_ := Aside0.mk (below_step (by repeat (with_reducible first | exact HB.out | apply pw_below_drewN | apply below_drew1 | refine below_set ?_ GE259.out)) hb); have n3_ := Aside0.mk (hbox); have n4_ := Aside0.mk ((by rw [hg]; exact (below_size (by repeat (with_reducible first | exact HB.out | apply pw_below_drewN | apply below_drew1 | refine below_set ?_ GE259.out))) : w.heap.size ≤ gb270)); have n5_ := Aside0.mk ((by rw [hg]; exact (below_size (by repeat (with_reducible first | exact HB.out | apply pw_below_drewN | apply below_drew1 | refine below_set ?_ GE259.out))) : w.heap.size ≤ gb270)); have n6_ := Aside0.mk ((by rw [hg]; exact Nat.ne_of_lt (blk_lt BK259.out) : gb259 ≠ gb270)); have n7_ := Aside0.mk ((by rw [hg]; exact Nat.ne_of_gt (blk_lt BK259.out) : gb270 ≠ gb259)); clear HO264; clear BK259; clear HB; have HO264 := n0_; have BK259 := n1_; have HB := n2_; have BK270 := n3_; have GW270 := n4_; have GE270 := n5_; have NB259_270 := n6_; have NB270_259 := n7_; clear n0_ n1_ n2_ n3_ n4_ n5_ n6_ n7_; clear hb hbox hg) | ((with_reducible refine gate_dst (N := 6) rfl ?_); (try (refine gate_guard (by rfl) ?_; dsimp only)); refine box_event ?hg (N := 6) ?hd (cs := #[.int .i64 0, .int .i64 0, .int .i64 0, .string (⟨#[]⟩ : ByteArray)]) (t := 35) ?hr ?_; (case hd => rfl); (case hg => rfl); (case hr => first | (go_simp; done) | (go_simp; rfl)); intro gb271 hg w17 hbox hb; have n0_ := Aside0.mk (Kd.R_below (Kd.R_elderB (HO264.out) gb271 (Nat.le_of_eq hg.symm)) hb); have n1_ := Aside0.mk (blk_below BK259.out hb); have n2_ := Aside0.mk (blk_below BK270.out hb); have n3_ := Aside0.mk (below_step (by repeat (with_reducible first | exact HB.out | apply pw_below_drewN | apply below_drew1 | refine below_set ?_ GE259.out | refine below_set ?_ GE270.out)) hb); have n4_ := Aside0.mk (hbox); have n5_ := Aside0.mk ((by rw [hg]; exact (below_size (by repeat (with_reducible first | exact HB.out | apply pw_below_drewN | apply below_drew1 | refine below_set ?_ GE259.out | refine below_set ?_ GE270.out))) : w.heap.size ≤ gb271)); have n6_ := Aside0.mk ((by rw [hg]; exact (below_size (by repeat (with_reducible first | exact HB.out | apply pw_below_drewN | apply below_drew1 | refine below_set ?_ GE259.out | refine below_set ?_ GE270.out))) : w.heap.size ≤ gb271)); have n7_ := Aside0.mk ((by rw [hg]; exact Nat.ne_of_lt (blk_lt BK259.out) : gb259 ≠ gb271)); have n8_ := Aside0.mk ((by rw [hg]; exact Nat.ne_of_gt (blk_lt BK259.out) : gb271 ≠ gb259)); have n9_ := Aside0.mk ((by rw [hg]; exact Nat.ne_of_lt (blk_lt BK270.out) : gb270 ≠ gb271)); have n10_ := Aside0.mk ((by rw [hg]; exact Nat.ne_of_gt (blk_lt BK270.out) : gb271 ≠ gb270)); clear HO264; clear BK259; clear BK270; clear HB; have HO264 := n0_; have BK259 := n1_; have BK270 := n2_; have HB := n3_; have BK271 := n4_; have GW271 := n5_; have GE271 := n6_; have NB259_271 := n7_; have NB271_259 := n8_; have NB270_271 := n9_; have NB271_270 := n10_; clear n0_ n1_ n2_ n3_ n4_ n5_ n6_ n7_ n8_ n9_ n10_; clear hb hbox hg; have hnb18 := NB270_259.out; have hnc18 := NB259_270.out; have hnb19 := NB270_271.out; have hnc19 := NB271_270.out; have hcz20_0 : w17.cell? ⟨gb270, 0, none⟩ = some (.int .i64 0) := (blk_cell BK270.out 0).trans rfl; have hcz20_1 : w17.cell? ⟨gb270, 1, none⟩ = some (.slice none 0 0) := (blk_cell BK270.out 1).trans rfl; have hfz20_0 := blk_frozen BK270.out 0; have hfz20_1 := blk_frozen BK270.out 1; obtain ⟨Ao21, co21, eo21⟩ := Kd.R_slice HO264.out; subst eo21; have hnb22 := NB271_259.out; have hnc22 := NB259_271.out; have hcz23_0 : w17.cell? ⟨gb271, 0, none⟩ = some (.int .i64 0) := (blk_cell BK271.out 0).trans rfl; have hcz23_1 : w17.cell? ⟨gb271, 1, none⟩ = some (.int .i64 0) := (blk_cell BK271.out 1).trans rfl; have hcz23_2 : w17.cell? ⟨gb271, 2, none⟩ = some (.int .i64 0) := (blk_cell BK271.out 2).trans rfl; have hcz23_3 : w17.cell? ⟨gb271, 3, none⟩ = some (.string (⟨#[]⟩ : ByteArray)) := (blk_cell BK271.out 3).trans rfl; have hfz23_0 := blk_frozen BK271.out 0; have hfz23_1 := blk_frozen BK271.out 1; have hfz23_2 := blk_frozen BK271.out 2; have hfz23_3 := blk_frozen BK271.out 3; have hcz24_0 : w17.cell? ⟨gb259, 0, none⟩ = some (.int .i64 a0_0) := (blk_cell BK259.out 0).trans rfl; have hcz24_1 : w17.cell? ⟨gb259, 1, none⟩ = some (.slice A0_1 l0_1.length c0_1) := (blk_cell BK259.out 1).trans rfl; have hfz24_0 := blk_frozen BK259.out 0; have hfz24_1 := blk_frozen BK259.out 1) | ((with_reducible refine gate_callee (f := 15) rfl ?_); refine goesL_ (some 25) rfl rfl Try.func15 (by kernel_rfl) rfl #[.agg #[.int .i64 a0_0, .slice A0_1 l0_1.length c0_1], .int .i64 a1] rfl (by (try simp only [List.map_toArray, List.map_cons, List.map_nil]); first | done | rfl | (simp only [List.length_drop, List.length_take]; rfl)) ?_; (with_reducible refine (post_Again.calls k a0_0 _ _ l0_1 a1 t272 t273 t276 t277 _ ?side1 ?side2 A9.out).mono ?_); (case side1 => exact Kd.C_below HR0_1.out (by repeat (with_reducible first | exact HB.out | apply pw_below_drewN | apply below_drew1 | refine below_set ?_ GE259.out | refine below_set ?_ GE270.out | refine below_set ?_ GE271.out))); (case side2 => exact HC0_1.out); rintro e w25 ⟨v274, rfl, ho0, hb⟩; refine ⟨_, rfl, ?_⟩; have n0_ := Aside0.mk (Kd.R_elder' (by (with_reducible repeat (first | apply Kd.R_alloc | apply Kd.R_drewN | apply Kd.R_drew)); exact (Kd.R_mono (Kd.R_mono (Kd.R_far (p := ⟨gb271, 3, none⟩) (Kd.R_far (p := ⟨gb271, 2, none⟩) (Kd.R_far (p := ⟨gb271, 1, none⟩) (Kd.R_far (p := ⟨gb271, 0, none⟩) (Kd.R_far (p := ⟨gb270, 1, none⟩) (Kd.R_far (p := ⟨gb270, 0, none⟩) (Kd.R_mono (Kd.R_types HO264.out BK270.out (by decide)) (fun k_ hk => (⟨hk, hk.1.2⟩ : _ ∧ k_ ≠ gb271))) (fun _ hk => hk.1.2) (.int .i64 t261)) (fun _ hk => hk.1.2) (.slice Ao21 t262.length co21)) (fun _ hk => hk.2) (.int .i64 t265)) (fun _ hk => hk.2) (.int .i64 t266)) (fun _ hk => hk.2) (.int .i64 t267)) (fun _ hk => hk.2) (.string t268)) (fun _ h_ => h_.1)) (fun _ h_ => h_.1))) (Kd.R_base ho0) hb); have n1_ := Aside0.mk (Kd.R_lower (Kd.R_newB (Kd.R_new' ho0 (Kd.R_lt (by (with_reducible repeat (first | apply Kd.R_alloc | apply Kd.R_drewN | apply Kd.R_drew)); exact (Kd.R_mono (Kd.R_mono (Kd.R_far (p := ⟨gb271, 3, none⟩) (Kd.R_far (p := ⟨gb271, 2, none⟩) (Kd.R_far (p := ⟨gb271, 1, none⟩) (Kd.R_far (p := ⟨gb271, 0, none⟩) (Kd.R_far (p := ⟨gb270, 1, none⟩) (Kd.R_far (p := ⟨gb270, 0, none⟩) (Kd.R_mono (Kd.R_types HO264.out BK270.out (by decide)) (fun k_ hk => (⟨hk, hk.1.2⟩ : _ ∧ k_ ≠ gb271))) (fun _ hk => hk.1.2) (.int .i64 t261)) (fun _ hk => hk.1.2) (.slice Ao21 t262.length co21)) (fun _ hk => hk.2) (.int .i64 t265)) (fun _ hk => hk.2) (.int .i64 t266)) (fun _ hk => hk.2) (.int .i64 t267)) (fun _ hk => hk.2) (.string t268)) (fun _ h_ => h_.1)) (fun _ h_ => h_.1))))) (g := gb271) (o := .cells #[.int .i64 t265, .int .i64 t266, .int .i64 t267, .string t268] 35 (0, 0)) (by refine blk_put (cs := #[.int .i64 t265, .int .i64 t266, .int .i64 t267, .string (⟨#[]⟩ : ByteArray)]) ?_ 3 _ rfl; refine blk_put (cs := #[.int .i64 t265, .int .i64 t266, .int .i64 0, .string (⟨#[]⟩ : ByteArray)]) ?_ 2 _ rfl; refine blk_put (cs := #[.int .i64 t265, .int .i64 0, .int .i64 0, .string (⟨#[]⟩ : ByteArray)]) ?_ 1 _ rfl; refine blk_put (cs := #[.int .i64 0, .int .i64 0, .int .i64 0, .string (⟨#[]⟩ : ByteArray)]) ?_ 0 _ rfl; refine blk_far ?_ NB271_270.out _; refine blk_far ?_ NB271_270.out _; exact BK271.out)) (below_size (by repeat (with_reducible first | exact HB.out | apply pw_below_drewN | apply below_drew1 | refine below_set ?_ GE259.out | refine below_set ?_ GE270.out | refine below_set ?_ GE271.out)))); have n2_ := Aside0.mk (blk_below (g := gb259) (o := .cells #[.int .i64 a0_0, .slice A0_1 l0_1.length c0_1] 24 (0, 0)) (by refine blk_far ?_ NB259_271.out _; refine blk_far ?_ NB259_271.out _; refine blk_far ?_ NB259_271.out _; refine blk_far ?_ NB259_271.out _; refine blk_far ?_ NB259_270.out _; refine blk_far ?_ NB259_270.out _; exact BK259.out) hb); have n3_ := Aside0.mk (blk_below (g := gb270) (o := .cells #[.int .i64 t261, .slice Ao21 t262.length co21] 24 (0, 0)) (by refine blk_far ?_ NB270_271.out _; refine blk_far ?_ NB270_271.out _; refine blk_far ?_ NB270_271.out _; refine blk_far ?_ NB270_271.out _; refine blk_put (cs := #[.int .i64 t261, .slice none 0 0]) ?_ 1 _ rfl; refine blk_put (cs := #[.int .i64 0, .slice none 0 0]) ?_ 0 _ rfl; exact BK270.out) hb); have n4_ := Aside0.mk (blk_below (g := gb271) (o := .cells #[.int .i64 t265, .int .i64 t266, .int .i64 t267, .string t268] 35 (0, 0)) (by refine blk_put (cs := #[.int .i64 t265, .int .i64 t266, .int .i64 t267, .string (⟨#[]⟩ : ByteArray)]) ?_ 3 _ rfl; refine blk_put (cs := #[.int .i64 t265, .int .i64 t266, .int .i64 0, .string (⟨#[]⟩ : ByteArray)]) ?_ 2 _ rfl; refine blk_put (cs := #[.int .i64 t265, .int .i64 0, .int .i64 0, .string (⟨#[]⟩ : ByteArray)]) ?_ 1 _ rfl; refine blk_put (cs := #[.int .i64 0, .int .i64 0, .int .i64 0, .string (⟨#[]⟩ : ByteArray)]) ?_ 0 _ rfl; refine blk_far ?_ NB271_270.out _; refine blk_far ?_ NB271_270.out _; exact BK271.out) hb); have n5_ := Aside0.mk (below_step (by repeat (with_reducible first | exact HB.out | apply pw_below_drewN | apply below_drew1 | refine below_set ?_ GE259.out | refine below_set ?_ GE270.out | refine below_set ?_ GE271.out)) hb); clear HO264; clear BK259; clear BK270; clear BK271; clear HB; have HO264 := n0_; have HO275 := n1_; have BK259 := n2_; have BK270 := n3_; have BK271 := n4_; have HB := n5_; clear n0_ n1_ n2_ n3_ n4_ n5_; (try clear hb); (try clear hb2); (try clear hk); (try clear hi); (try clear ho0)) | ((with_reducible refine gate_dst (N := 8) rfl ?_); (try (refine gate_guard (by rfl) ?_; dsimp only)); refine box_event ?hg (N := 8) ?hd (cs := #[.int .i64 0, .slice none 0 0]) (t := 24) ?hr ?_; (case hd => rfl); (case hg => rfl); (case hr => first | (go_simp; done) | (go_simp; rfl)); intro gb278 hg w26 hbox hb; have n0_ := Aside0.mk (Kd.R_below (HO264.out) hb); have n1_ := Aside0.mk (Kd.R_below (HO275.out) hb); have n2_ := Aside0.mk (blk_below BK259.out hb); have n3_ := Aside0.mk (blk_below BK270.out hb); have n4_ := Aside0.mk (blk_below BK271.out hb); have n5_ := Aside0.mk (below_step (by repeat (with_reducible first | exact HB.out | apply pw_below_drewN | apply below_drew1 | refine below_set ?_ GE259.out | refine below_set ?_ GE270.out | refine below_set ?_ GE271.out)) hb); have n6_ := Aside0.mk (hbox); have n7_ := Aside0.mk ((by rw [hg]; exact (below_size (by repeat (with_reducible first | exact HB.out | apply pw_below_drewN | apply below_drew1 | refine below_set ?_ GE259.out | refine below_set ?_ GE270.out | refine below_set ?_ GE271.out))) : w.heap.size ≤ gb278)); have n8_ := Aside0.mk ((by rw [hg]; exact (below_size (by repeat (with_reducible first | exact HB.out | apply pw_below_drewN | apply below_drew1 | refine below_set ?_ GE259.out | refine below_set ?_ GE270.out | refine below_set ?_ GE271.out))) : w.heap.size ≤ gb278)); have n9_ := Aside0.mk ((by rw [hg]; exact Nat.ne_of_lt (blk_lt BK259.out) : gb259 ≠ gb278)); have n10_ := Aside0.mk ((by rw [hg]; exact Nat.ne_of_gt (blk_lt BK259.out) : gb278 ≠ gb259)); have n11_ := Aside0.mk ((by rw [hg]; exact Nat.ne_of_lt (blk_lt BK270.out) : gb270 ≠ gb278)); have n12_ := Aside0.mk ((by rw [hg]; exact Nat.ne_of_gt (blk_lt BK270.out) : gb278 ≠ gb270)); have n13_ := Aside0.mk ((by rw [hg]; exact Nat.ne_of_lt (blk_lt BK271.out) : gb271 ≠ gb278)); have n14_ := Aside0.mk ((by rw [hg]; exact Nat.ne_of_gt (blk_lt BK271.out) : gb278 ≠ gb271)); clear HO264; clear HO275; clear BK259; clear BK270; clear BK271; clear HB; have HO264 := n0_; have HO275 := n1_; have BK259 := n2_; have BK270 := n3_; have BK271 := n4_; have HB := n5_; have BK278 := n6_; have GW278 := n7_; have GE278 := n8_; have NB259_278 := n9_; have NB278_259 := n10_; have NB270_278 := n11_; have NB278_270 := n12_; have NB271_278 := n13_; have NB278_271 := n14_; clear n0_ n1_ n2_ n3_ n4_ n5_ n6_ n7_ n8_ n9_ n10_ n11_ n12_ n13_ n14_; clear hb hbox hg; have hnb27 := NB278_259.out; have hnc27 := NB259_278.out; have hnb28 := NB278_270.out; have hnc28 := NB270_278.out; have hnb29 := NB278_271.out; have hnc29 := NB271_278.out; have hcz30_0 : w26.cell? ⟨gb278, 0, none⟩ = some (.int .i64 0) := (blk_cell BK278.out 0).trans rfl; have hcz30_1 : w26.cell? ⟨gb278, 1, none⟩ = some (.slice none 0 0) := (blk_cell BK278.out 1).trans rfl; have hfz30_0 := blk_frozen BK278.out 0; have hfz30_1 := blk_frozen BK278.out 1; obtain ⟨Ao31, co31, eo31⟩ := Kd.R_slice HO275.out; subst eo31))
    (try simp only [Act.put, List.setIfInBounds_toArray, List.set_cons_zero, List.set_cons_succ])
    go_cut [34] (fun v34 wc => ∃ (kq : Nat) (x34_9 : Bool), v34 = .bool x34_9 ∧ Aside0 (watchmanlaw21_PostAgain.j0 kq t269 t276 t277 x34_9 a0_0 l0_1 t265 t266 t267 t268 t272 t273 = some r) ∧ Aside0 (kq ≤ k) ∧ Aside0 (Kd.R k35 35 wc w.heap.size (fun k_ => some k_ ≠ ((.slice Ao31 t273.length co31) : Value).ownBlock ∧ k_ ≠ gb271) (.slice Ao21 t262.length co21) t262) ∧ Aside0 (Kd.R k35 35 wc w.heap.size (fun k_ => some k_ ≠ ((.slice Ao21 t262.length co21) : Value).ownBlock ∧ k_ ≠ gb271) (.slice Ao31 t273.length co31) t273) ∧ Aside0 (wc.heap[gb259]? = some (.cells #[.int .i64 a0_0, (.slice A0_1 l0_1.length c0_1)] 24 (0, 0))) ∧ Aside0 (wc.heap[gb270]? = some (.cells #[.int .i64 t261, (.slice Ao21 t262.length co21)] 24 (0, 0))) ∧ Aside0 (wc.heap[gb271]? = some (.cells #[.int .i64 t265, .int .i64 t266, .int .i64 t267, .string t268] 35 (0, 0))) ∧ Aside0 (wc.heap[gb278]? = some (.cells #[.int .i64 t272, (.slice Ao31 t273.length co31)] 24 (0, 0))) ∧ Aside0 (Below w.heap.size w wc))
    case first =>
      have H := HC10.out
      clear HC10
      by_cases c32 : t269 = 0
      · rw [if_pos c32] at H
        have c32b0 : (t269 == 0) = true := beq_iff_eq.mpr c32
        have c32b1 : (t269 != 0) = false := bne_eq_false_iff_eq.mpr c32
        clear c32
        (first | rw [c32b0] | (simp only [i64_w, i32_w]; rw [c32b0]) | skip)
        have H' := Aside0.mk H
        clear H
        go_wp2
        go_meet
        case rel => exact ⟨_, ((t277 != 0)), (by first | rfl | (simp; done) | (simp [*]; done)), H', ⟨by first | omega | exact Nat.le_refl _⟩, ⟨by (with_reducible repeat (first | apply Kd.R_alloc | apply Kd.R_drewN | apply Kd.R_drew)); exact Kd.R_mono (Kd.R_far (p := ⟨gb278, 1, none⟩) (Kd.R_far (p := ⟨gb278, 0, none⟩) (Kd.R_types HO264.out BK278.out (by decide)) (fun _ hk => hk.2) (.int .i64 t272)) (fun _ hk => hk.2) (.slice Ao31 t273.length co31)) (fun _ hk => ⟨hk.1.2, hk.1.1.2⟩)⟩, ⟨by (with_reducible repeat (first | apply Kd.R_alloc | apply Kd.R_drewN | apply Kd.R_drew)); exact Kd.R_mono (Kd.R_far (p := ⟨gb278, 1, none⟩) (Kd.R_far (p := ⟨gb278, 0, none⟩) (Kd.R_types HO275.out BK278.out (by decide)) (fun _ hk => hk.2) (.int .i64 t272)) (fun _ hk => hk.2) (.slice Ao31 t273.length co31)) (fun _ hk => ⟨hk.1.1.2, hk.1.2⟩)⟩, ⟨by (with_reducible repeat (first | refine blk_drewN ?_ _ | refine blk_drew ?_ | refine blk_alloc ?_ _)); refine blk_far ?_ NB259_278.out _; (with_reducible repeat (first | refine blk_drewN ?_ _ | refine blk_drew ?_ | refine blk_alloc ?_ _)); refine blk_far ?_ NB259_278.out _; (with_reducible repeat (first | refine blk_drewN ?_ _ | refine blk_drew ?_ | refine blk_alloc ?_ _)); exact BK259.out⟩, ⟨by (with_reducible repeat (first | refine blk_drewN ?_ _ | refine blk_drew ?_ | refine blk_alloc ?_ _)); refine blk_far ?_ NB270_278.out _; (with_reducible repeat (first | refine blk_drewN ?_ _ | refine blk_drew ?_ | refine blk_alloc ?_ _)); refine blk_far ?_ NB270_278.out _; (with_reducible repeat (first | refine blk_drewN ?_ _ | refine blk_drew ?_ | refine blk_alloc ?_ _)); exact BK270.out⟩, ⟨by (with_reducible repeat (first | refine blk_drewN ?_ _ | refine blk_drew ?_ | refine blk_alloc ?_ _)); refine blk_far ?_ NB271_278.out _; (with_reducible repeat (first | refine blk_drewN ?_ _ | refine blk_drew ?_ | refine blk_alloc ?_ _)); refine blk_far ?_ NB271_278.out _; (with_reducible repeat (first | refine blk_drewN ?_ _ | refine blk_drew ?_ | refine blk_alloc ?_ _)); exact BK271.out⟩, ⟨by (with_reducible repeat (first | refine blk_drewN ?_ _ | refine blk_drew ?_ | refine blk_alloc ?_ _)); refine blk_put (cs := #[.int .i64 t272, .slice none 0 0]) ?_ 1 _ rfl; (with_reducible repeat (first | refine blk_drewN ?_ _ | refine blk_drew ?_ | refine blk_alloc ?_ _)); refine blk_put (cs := #[.int .i64 0, .slice none 0 0]) ?_ 0 _ rfl; (with_reducible repeat (first | refine blk_drewN ?_ _ | refine blk_drew ?_ | refine blk_alloc ?_ _)); exact BK278.out⟩, ⟨by repeat (with_reducible first | exact HB.out | apply pw_below_drewN | apply below_drew1 | refine below_set ?_ GE259.out | refine below_set ?_ GE270.out | refine below_set ?_ GE271.out | refine below_set ?_ GE278.out)⟩⟩
      · rw [if_neg c32] at H
        have c32b0 : (t269 == 0) = false := beq_eq_false_iff_ne.mpr c32
        have c32b1 : (t269 != 0) = true := bne_iff_ne.mpr c32
        (first | rw [c32b0] | (simp only [i64_w, i32_w]; rw [c32b0]) | skip)
        have H' := Aside0.mk H
        clear H
        go_wp2
        go_meet
        case rel => exact ⟨_, (true), (by first | rfl | (simp; done) | (simp [*]; done)), H', ⟨by first | omega | exact Nat.le_refl _⟩, ⟨by (with_reducible repeat (first | apply Kd.R_alloc | apply Kd.R_drewN | apply Kd.R_drew)); exact Kd.R_mono (Kd.R_far (p := ⟨gb278, 1, none⟩) (Kd.R_far (p := ⟨gb278, 0, none⟩) (Kd.R_types HO264.out BK278.out (by decide)) (fun _ hk => hk.2) (.int .i64 t272)) (fun _ hk => hk.2) (.slice Ao31 t273.length co31)) (fun _ hk => ⟨hk.1.2, hk.1.1.2⟩)⟩, ⟨by (with_reducible repeat (first | apply Kd.R_alloc | apply Kd.R_drewN | apply Kd.R_drew)); exact Kd.R_mono (Kd.R_far (p := ⟨gb278, 1, none⟩) (Kd.R_far (p := ⟨gb278, 0, none⟩) (Kd.R_types HO275.out BK278.out (by decide)) (fun _ hk => hk.2) (.int .i64 t272)) (fun _ hk => hk.2) (.slice Ao31 t273.length co31)) (fun _ hk => ⟨hk.1.1.2, hk.1.2⟩)⟩, ⟨by (with_reducible repeat (first | refine blk_drewN ?_ _ | refine blk_drew ?_ | refine blk_alloc ?_ _)); refine blk_far ?_ NB259_278.out _; (with_reducible repeat (first | refine blk_drewN ?_ _ | refine blk_drew ?_ | refine blk_alloc ?_ _)); refine blk_far ?_ NB259_278.out _; (with_reducible repeat (first | refine blk_drewN ?_ _ | refine blk_drew ?_ | refine blk_alloc ?_ _)); exact BK259.out⟩, ⟨by (with_reducible repeat (first | refine blk_drewN ?_ _ | refine blk_drew ?_ | refine blk_alloc ?_ _)); refine blk_far ?_ NB270_278.out _; (with_reducible repeat (first | refine blk_drewN ?_ _ | refine blk_drew ?_ | refine blk_alloc ?_ _)); refine blk_far ?_ NB270_278.out _; (with_reducible repeat (first | refine blk_drewN ?_ _ | refine blk_drew ?_ | refine blk_alloc ?_ _)); exact BK270.out⟩, ⟨by (with_reducible repeat (first | refine blk_drewN ?_ _ | refine blk_drew ?_ | refine blk_alloc ?_ _)); refine blk_far ?_ NB271_278.out _; (with_reducible repeat (first | refine blk_drewN ?_ _ | refine blk_drew ?_ | refine blk_alloc ?_ _)); refine blk_far ?_ NB271_278.out _; (with_reducible repeat (first | refine blk_drewN ?_ _ | refine blk_drew ?_ | refine blk_alloc ?_ _)); exact BK271.out⟩, ⟨by (with_reducible repeat (first | refine blk_drewN ?_ _ | refine blk_drew ?_ | refine blk_alloc ?_ _)); refine blk_put (cs := #[.int .i64 t272, .slice none 0 0]) ?_ 1 _ rfl; (with_reducible repeat (first | refine blk_drewN ?_ _ | refine blk_drew ?_ | refine blk_alloc ?_ _)); refine blk_put (cs := #[.int .i64 0, .slice none 0 0]) ?_ 0 _ rfl; (with_reducible repeat (first | refine blk_drewN ?_ _ | refine blk_drew ?_ | refine blk_alloc ?_ _)); exact BK278.out⟩, ⟨by repeat (with_reducible first | exact HB.out | apply pw_below_drewN | apply below_drew1 | refine below_set ?_ GE259.out | refine below_set ?_ GE270.out | refine below_set ?_ GE271.out | refine below_set ?_ GE278.out)⟩⟩
    case rest =>
      clear HC10
      try clear c1
      try clear c2
      try clear p2
      try clear c3
      try clear c4
      try clear c7
      try clear c8
      try clear c13
      try clear c15
      try clear c18
      try clear c19
      try clear c22
      try clear c27
      try clear c28
      try clear c29
      try clear c32
      try clear c32b0
      try clear c32b1
      try clear hcz12_0
      try clear hcz12_1
      try clear hcz14_0
      try clear hcz14_1
      try clear hcz20_0
      try clear hcz20_1
      try clear hcz23_0
      try clear hcz23_1
      try clear hcz23_2
      try clear hcz23_3
      try clear hcz24_0
      try clear hcz24_1
      try clear hcz30_0
      try clear hcz30_1
      try clear hcz6_0
      try clear hcz6_1
      try clear hfz12_0
      try clear hfz12_1
      try clear hfz14_0
      try clear hfz14_1
      try clear hfz20_0
      try clear hfz20_1
      try clear hfz23_0
      try clear hfz23_1
      try clear hfz23_2
      try clear hfz23_3
      try clear hfz24_0
      try clear hfz24_1
      try clear hfz30_0
      try clear hfz30_1
      try clear hfz6_0
      try clear hfz6_1
      obtain ⟨kq, x34_9, rfl, HA, HJ9, HO_271001, HO_279001, BK259, BK270, BK271, BK278, HB⟩ := hcut
      cases kq with
      | zero => exact absurd HA.out (by simp [watchmanlaw21_PostAgain.j0])
      | succ kj9 =>
        have H := HA.out
        clear HA
        simp only [watchmanlaw21_PostAgain.j0] at H
        by_cases c33 : x34_9 = true
        · subst c33
          have H1 : ((watchmanlaw21_posted.f kj9).bind fun t279 => (if t279 = true then (if t269 = t277 then (some true) else (some (t277 == 2))) else (none))) = some r := by rw [if_pos rfl] at H; exact H
          clear H
          have H := H1
          clear H1
          replace H := Option.bind_eq_some_iff.mp H
          obtain ⟨t279, A340, H⟩ := H
          replace H : (if t279 = true then (if t269 = t277 then (some true) else (some (t277 == 2))) else (none)) = some r := H
          have A34 := Aside0.mk A340
          clear A340
          by_cases c35 : t279 = true
          · subst c35
            have H1 : (if t269 = t277 then (some true) else (some (t277 == 2))) = some r := by rw [if_pos rfl] at H; exact H
            clear H
            have H := H1
            clear H1
            by_cases c36 : t269 = t277
            · rw [if_pos c36] at H
              have c36b0 : (t269 == t277) = true := beq_iff_eq.mpr c36
              have c36b1 : (t269 != t277) = false := bne_eq_false_iff_eq.mpr c36
              clear c36
              obtain rfl := Option.some.inj H
              go_wp2_with (first | ((with_reducible refine gate_callee (f := 24) rfl ?_); refine goesL_ (some 35) rfl rfl Try.func24 (by kernel_rfl) rfl #[] rfl (by (try simp only [List.map_toArray, List.map_cons, List.map_nil]); first | done | rfl | (simp only [List.length_drop, List.length_take]; rfl)) ?_; (with_reducible refine (watchmanlaw21_posted.calls kj9  true _ A34.out).mono ?_); rintro e w37 ⟨rfl, hb⟩; refine ⟨_, rfl, ?_⟩; have n0_ := Aside0.mk (Kd.R_below (HO_271001.out) hb); have n1_ := Aside0.mk (Kd.R_below (HO_279001.out) hb); have n2_ := Aside0.mk (blk_below BK259.out hb); have n3_ := Aside0.mk (blk_below BK270.out hb); have n4_ := Aside0.mk (blk_below BK271.out hb); have n5_ := Aside0.mk (blk_below BK278.out hb); have n6_ := Aside0.mk (below_step (by repeat (with_reducible first | exact HB.out | apply pw_below_drewN | apply below_drew1 | refine below_set ?_ GE259.out | refine below_set ?_ GE270.out | refine below_set ?_ GE271.out | refine below_set ?_ GE278.out)) hb); clear HO_271001; clear HO_279001; clear BK259; clear BK270; clear BK271; clear BK278; clear HB; have HO_271001 := n0_; have HO_279001 := n1_; have BK259 := n2_; have BK270 := n3_; have BK271 := n4_; have BK278 := n5_; have HB := n6_; clear n0_ n1_ n2_ n3_ n4_ n5_ n6_; (try clear hb); (try clear hb2); (try clear hk); (try clear hi)))
              go_ret
              exact ⟨by first | rfl | (simp [errW_none, errW_some] <;> rfl) | (simp [*, errW_none, errW_some] <;> rfl), by repeat (with_reducible first | exact HB.out | apply pw_below_drewN | apply below_drew1 | refine below_set ?_ GE259.out | refine below_set ?_ GE270.out | refine below_set ?_ GE271.out | refine below_set ?_ GE278.out)⟩
            · rw [if_neg c36] at H
              have c36b0 : (t269 == t277) = false := beq_eq_false_iff_ne.mpr c36
              have c36b1 : (t269 != t277) = true := bne_iff_ne.mpr c36
              obtain rfl := Option.some.inj H
              go_wp2_with (first | ((with_reducible refine gate_callee (f := 24) rfl ?_); refine goesL_ (some 35) rfl rfl Try.func24 (by kernel_rfl) rfl #[] rfl (by (try simp only [List.map_toArray, List.map_cons, List.map_nil]); first | done | rfl | (simp only [List.length_drop, List.length_take]; rfl)) ?_; (with_reducible refine (watchmanlaw21_posted.calls kj9  true _ A34.out).mono ?_); rintro e w38 ⟨rfl, hb⟩; refine ⟨_, rfl, ?_⟩; have n0_ := Aside0.mk (Kd.R_below (HO_271001.out) hb); have n1_ := Aside0.mk (Kd.R_below (HO_279001.out) hb); have n2_ := Aside0.mk (blk_below BK259.out hb); have n3_ := Aside0.mk (blk_below BK270.out hb); have n4_ := Aside0.mk (blk_below BK271.out hb); have n5_ := Aside0.mk (blk_below BK278.out hb); have n6_ := Aside0.mk (below_step (by repeat (with_reducible first | exact HB.out | apply pw_below_drewN | apply below_drew1 | refine below_set ?_ GE259.out | refine below_set ?_ GE270.out | refine below_set ?_ GE271.out | refine below_set ?_ GE278.out)) hb); clear HO_271001; clear HO_279001; clear BK259; clear BK270; clear BK271; clear BK278; clear HB; have HO_271001 := n0_; have HO_279001 := n1_; have BK259 := n2_; have BK270 := n3_; have BK271 := n4_; have BK278 := n5_; have HB := n6_; clear n0_ n1_ n2_ n3_ n4_ n5_ n6_; (try clear hb); (try clear hb2); (try clear hk); (try clear hi)))
              go_ret
              exact ⟨by first | rfl | (simp [errW_none, errW_some] <;> rfl) | (simp [*, errW_none, errW_some] <;> rfl), by repeat (with_reducible first | exact HB.out | apply pw_below_drewN | apply below_drew1 | refine below_set ?_ GE259.out | refine below_set ?_ GE270.out | refine below_set ?_ GE271.out | refine below_set ?_ GE278.out)⟩
          · replace c35 := Bool.eq_false_iff.mpr c35
            subst c35
            have H1 : (none) = some r := by rw [if_neg (show ¬ (false = true) by decide)] at H; exact H
            clear H
            have H := H1
            clear H1
            exact absurd H (by simp)
        · replace c33 := Bool.eq_false_iff.mpr c33
          subst c33
          have H1 : (if (wrap64 ((t273.length : Int) + t276)) = (wrap64 ((l0_1.length : Int) + 1)) then (watchmanlaw21_PostAgain.j1 kj9 (t273.length : Int) (t272 != (wrap64 (a0_0 + 1))) a0_0 l0_1 t265 t266 t267 t268 t272 t273) else (none)) = some r := by rw [if_neg (show ¬ (false = true) by decide)] at H; exact H
          clear H
          have H := H1
          clear H1
          have HC39 := Aside0.mk H
          clear H
          have hnb40 := NB278_259.out
          have hnc40 := NB259_278.out
          have hnb41 := NB278_270.out
          have hnc41 := NB270_278.out
          have hnb42 := NB278_271.out
          have hnc42 := NB271_278.out
          have hcz43_0 : wc.cell? ⟨gb278, 0, none⟩ = some (.int .i64 t272) := (blk_cell BK278.out 0).trans rfl
          have hcz43_1 : wc.cell? ⟨gb278, 1, none⟩ = some (.slice Ao31 t273.length co31) := (blk_cell BK278.out 1).trans rfl
          have hfz43_0 := blk_frozen BK278.out 0
          have hfz43_1 := blk_frozen BK278.out 1
          go_upto_region 8 with (fail)
          go_cut [63] (fun v63 wc => ∃ (kq : Nat) (x63_38 : Bool), v63 = .bool x63_38 ∧ Aside0 (watchmanlaw21_PostAgain.j1 kq (t273.length : Int) x63_38 a0_0 l0_1 t265 t266 t267 t268 t272 t273 = some r) ∧ Aside0 (kq ≤ kj9) ∧ Aside0 (Kd.R k35 35 wc w.heap.size (fun k_ => some k_ ≠ ((.slice Ao31 t273.length co31) : Value).ownBlock ∧ k_ ≠ gb271) (.slice Ao21 t262.length co21) t262) ∧ Aside0 (Kd.R k35 35 wc w.heap.size (fun k_ => some k_ ≠ ((.slice Ao21 t262.length co21) : Value).ownBlock ∧ k_ ≠ gb271) (.slice Ao31 t273.length co31) t273) ∧ Aside0 (wc.heap[gb259]? = some (.cells #[.int .i64 a0_0, (.slice A0_1 l0_1.length c0_1)] 24 (0, 0))) ∧ Aside0 (wc.heap[gb270]? = some (.cells #[.int .i64 t261, (.slice Ao21 t262.length co21)] 24 (0, 0))) ∧ Aside0 (wc.heap[gb271]? = some (.cells #[.int .i64 t265, .int .i64 t266, .int .i64 t267, .string t268] 35 (0, 0))) ∧ Aside0 (wc.heap[gb278]? = some (.cells #[.int .i64 t272, (.slice Ao31 t273.length co31)] 24 (0, 0))) ∧ Aside0 (Below w.heap.size w wc))
          case first =>
            have H := HC39.out
            clear HC39
            by_cases c44 : (wrap64 ((t273.length : Int) + t276)) = (wrap64 ((l0_1.length : Int) + 1))
            · rw [if_pos c44] at H
              have c44b0 : ((wrap64 ((t273.length : Int) + t276)) == (wrap64 ((l0_1.length : Int) + 1))) = true := beq_iff_eq.mpr c44
              have c44b1 : ((wrap64 ((t273.length : Int) + t276)) != (wrap64 ((l0_1.length : Int) + 1))) = false := bne_eq_false_iff_eq.mpr c44
              clear c44
              (first | rw [c44b0] | (simp only [i64_w, i32_w]; rw [c44b0]) | skip)
              have H' := Aside0.mk H
              clear H
              have hnb45 := NB259_270.out
              have hnc45 := NB270_259.out
              have hnb46 := NB259_271.out
              have hnc46 := NB271_259.out
              have hnb47 := NB259_278.out
              have hnc47 := NB278_259.out
              have hcz48_0 : wc.cell? ⟨gb259, 0, none⟩ = some (.int .i64 a0_0) := (blk_cell BK259.out 0).trans rfl
              have hcz48_1 : wc.cell? ⟨gb259, 1, none⟩ = some (.slice A0_1 l0_1.length c0_1) := (blk_cell BK259.out 1).trans rfl
              have hfz48_0 := blk_frozen BK259.out 0
              have hfz48_1 := blk_frozen BK259.out 1
              have hnb49 := NB278_270.out
              have hnc49 := NB270_278.out
              have hnb50 := NB278_271.out
              have hnc50 := NB271_278.out
              have hcz51_0 : wc.cell? ⟨gb278, 0, none⟩ = some (.int .i64 t272) := (blk_cell BK278.out 0).trans rfl
              have hcz51_1 : wc.cell? ⟨gb278, 1, none⟩ = some (.slice Ao31 t273.length co31) := (blk_cell BK278.out 1).trans rfl
              have hfz51_0 := blk_frozen BK278.out 0
              have hfz51_1 := blk_frozen BK278.out 1
              go_wp2
              go_meet
              case rel => exact ⟨_, ((t272 != (wrap64 (a0_0 + 1)))), (by first | rfl | (simp; done) | (simp [*]; done)), H', ⟨by have := HJ9.out; first | omega | exact Nat.le_refl _⟩, ⟨by (with_reducible repeat (first | apply Kd.R_alloc | apply Kd.R_drewN | apply Kd.R_drew)); exact HO_271001.out⟩, ⟨by (with_reducible repeat (first | apply Kd.R_alloc | apply Kd.R_drewN | apply Kd.R_drew)); exact HO_279001.out⟩, ⟨by (with_reducible repeat (first | refine blk_drewN ?_ _ | refine blk_drew ?_ | refine blk_alloc ?_ _)); exact BK259.out⟩, ⟨by (with_reducible repeat (first | refine blk_drewN ?_ _ | refine blk_drew ?_ | refine blk_alloc ?_ _)); exact BK270.out⟩, ⟨by (with_reducible repeat (first | refine blk_drewN ?_ _ | refine blk_drew ?_ | refine blk_alloc ?_ _)); exact BK271.out⟩, ⟨by (with_reducible repeat (first | refine blk_drewN ?_ _ | refine blk_drew ?_ | refine blk_alloc ?_ _)); exact BK278.out⟩, ⟨by repeat (with_reducible first | exact HB.out | apply pw_below_drewN | apply below_drew1 | refine below_set ?_ GE259.out | refine below_set ?_ GE270.out | refine below_set ?_ GE271.out | refine below_set ?_ GE278.out)⟩⟩
            · rw [if_neg c44] at H
              exact absurd H (by simp)
          case rest =>
            clear HC39
            try clear c1
            try clear c2
            try clear p2
            try clear c3
            try clear c4
            try clear c5
            try clear p6
            try clear c7
            try clear c8
            try clear c13
            try clear c15
            try clear c18
            try clear c19
            try clear c22
            try clear c24
            try clear c27
            try clear c28
            try clear c29
            try clear c32
            try clear c32b0
            try clear c32b1
            try clear c33
            try clear c35
            try clear c36
            try clear c36b0
            try clear c36b1
            try clear c40
            try clear c41
            try clear c42
            try clear c44
            try clear c44b0
            try clear c44b1
            try clear c45
            try clear c46
            try clear c47
            try clear c49
            try clear c50
            try clear hcz12_0
            try clear hcz12_1
            try clear hcz14_0
            try clear hcz14_1
            try clear hcz20_0
            try clear hcz20_1
            try clear hcz23_0
            try clear hcz23_1
            try clear hcz23_2
            try clear hcz23_3
            try clear hcz24_0
            try clear hcz24_1
            try clear hcz30_0
            try clear hcz30_1
            try clear hcz43_0
            try clear hcz43_1
            try clear hcz48_0
            try clear hcz48_1
            try clear hcz51_0
            try clear hcz51_1
            try clear hcz6_0
            try clear hcz6_1
            try clear hfz12_0
            try clear hfz12_1
            try clear hfz14_0
            try clear hfz14_1
            try clear hfz20_0
            try clear hfz20_1
            try clear hfz23_0
            try clear hfz23_1
            try clear hfz23_2
            try clear hfz23_3
            try clear hfz24_0
            try clear hfz24_1
            try clear hfz30_0
            try clear hfz30_1
            try clear hfz43_0
            try clear hfz43_1
            try clear hfz48_0
            try clear hfz48_1
            try clear hfz51_0
            try clear hfz51_1
            try clear hfz6_0
            try clear hfz6_1
            try clear p2
            obtain ⟨kq, x63_38, rfl, HA, HJ38, HO_271001, HO_279001, BK259, BK270, BK271, BK278, HB⟩ := hcut
            cases kq with
            | zero => exact absurd HA.out (by simp [watchmanlaw21_PostAgain.j1])
            | succ kj38 =>
              have H := HA.out
              clear HA
              simp only [watchmanlaw21_PostAgain.j1] at H
              by_cases c52 : x63_38 = true
              · subst c52
                have H1 : (none) = some r := by rw [if_pos rfl] at H; exact H
                clear H
                have H := H1
                clear H1
                exact absurd H (by simp)
              · replace c52 := Bool.eq_false_iff.mpr c52
                subst c52
                have H1 : (if (t273.length : Int) = 0 then (watchmanlaw21_PostAgain.j2 kj38 (t273.length : Int) true a0_0 l0_1 t265 t266 t267 t268 t272 t273) else (if 0 ≤ (wrap64 ((t273.length : Int) - 1)) then (if (wrap64 ((t273.length : Int) - 1)) < (t273.length : Int) then (watchmanlaw21_PostAgain.j2 kj38 (t273.length : Int) (((rd_T35 t273 (wrap64 ((t273.length : Int) - 1))).f0) != a0_0) a0_0 l0_1 t265 t266 t267 t268 t272 t273) else (none)) else (none))) = some r := by rw [if_neg (show ¬ (false = true) by decide)] at H; exact H
                clear H
                have H := H1
                clear H1
                have HC53 := Aside0.mk H
                clear H
                go_upto_region 10 with (fail)
                go_cut [77] (fun v77 wc => ∃ (kq : Nat) (x77_52 : Bool), v77 = .bool x77_52 ∧ Aside0 (watchmanlaw21_PostAgain.j2 kq (t273.length : Int) x77_52 a0_0 l0_1 t265 t266 t267 t268 t272 t273 = some r) ∧ Aside0 (kq ≤ kj38) ∧ Aside0 (Kd.R k35 35 wc w.heap.size (fun k_ => some k_ ≠ ((.slice Ao31 t273.length co31) : Value).ownBlock ∧ k_ ≠ gb271) (.slice Ao21 t262.length co21) t262) ∧ Aside0 (Kd.R k35 35 wc w.heap.size (fun k_ => some k_ ≠ ((.slice Ao21 t262.length co21) : Value).ownBlock ∧ k_ ≠ gb271) (.slice Ao31 t273.length co31) t273) ∧ Aside0 (wc.heap[gb259]? = some (.cells #[.int .i64 a0_0, (.slice A0_1 l0_1.length c0_1)] 24 (0, 0))) ∧ Aside0 (wc.heap[gb270]? = some (.cells #[.int .i64 t261, (.slice Ao21 t262.length co21)] 24 (0, 0))) ∧ Aside0 (wc.heap[gb271]? = some (.cells #[.int .i64 t265, .int .i64 t266, .int .i64 t267, .string t268] 35 (0, 0))) ∧ Aside0 (wc.heap[gb278]? = some (.cells #[.int .i64 t272, (.slice Ao31 t273.length co31)] 24 (0, 0))) ∧ Aside0 (Below w.heap.size w wc))
                case first =>
                  have H := HC53.out
                  clear HC53
                  by_cases c54 : (t273.length : Int) = 0
                  · rw [if_pos c54] at H
                    have c54b0 : ((t273.length : Int) == 0) = true := beq_iff_eq.mpr c54
                    have c54b1 : ((t273.length : Int) != 0) = false := bne_eq_false_iff_eq.mpr c54
                    clear c54
                    (first | rw [c54b0] | (simp only [i64_w, i32_w]; rw [c54b0]) | skip)
                    have H' := Aside0.mk H
                    clear H
                    try go_wp2
                    have n0_ := Aside0.mk (Kd.R_drew HO_271001.out)
                    have n1_ := Aside0.mk (Kd.R_drew HO_279001.out)
                    have n2_ := Aside0.mk (blk_drew BK259.out)
                    have n3_ := Aside0.mk (blk_drew BK270.out)
                    have n4_ := Aside0.mk (blk_drew BK271.out)
                    have n5_ := Aside0.mk (blk_drew BK278.out)
                    have n6_ := Aside0.mk (below_drew1 HB.out)
                    clear HO_271001
                    clear HO_279001
                    clear BK259
                    clear BK270
                    clear BK271
                    clear BK278
                    clear HB
                    have HO_271001 := n0_
                    have HO_279001 := n1_
                    have BK259 := n2_
                    have BK270 := n3_
                    have BK271 := n4_
                    have BK278 := n5_
                    have HB := n6_
                    clear n0_ n1_ n2_ n3_ n4_ n5_ n6_
                    refine start_ (n := 14) (S := fun w' => True) (ds := []) #[false, false, false, false, false, false, false, false, false, false, false, false, false, false] (by kernel_rfl) rfl rfl trivial (fun hHeld => ?_); refine with_tabW watchmanlaw21_PostAgain.tab10 watchmanlaw21_PostAgain.bits10 (fun HT_ HW_ => ?_)
                    generalize wc.drew = w55 at HO_271001 HO_279001 BK259 BK270 BK271 BK278 HB hHeld ⊢
                    refine pure_ (i := 0) (N := some 64) (v := ?_) (a' := ?_) (dn_ 1 14) rfl rfl (any_of HT_.out (by kernel_rfl)) (fun _ _ _ h => h) (Or.inl ⟨by rfl, ?_⟩) ?_ ?_
                    rotate_left
                    · intro w'
                      go_simp
                      with_reducible rfl
                    rotate_left; (simp only [Act.put, List.setIfInBounds_toArray, List.set_cons_zero, List.set_cons_succ, i64_w, i32_w]; rfl)
                    refine pure_ (i := 1) (N := some 65) (v := ?_) (a' := ?_) (dn_ 2 14) rfl rfl (any_of HT_.out (by kernel_rfl)) (fun _ _ _ h => h) (Or.inl ⟨by rfl, ?_⟩) ?_ ?_
                    rotate_left
                    · intro w'
                      go_simp
                      with_reducible rfl
                    rotate_left; (simp only [Act.put, List.setIfInBounds_toArray, List.set_cons_zero, List.set_cons_succ, i64_w, i32_w]; rfl)
                    refine pure_ (i := 2) (N := some 66) (v := ?_) (a' := ?_) (dn_ 3 14) rfl rfl (any_of HT_.out (by kernel_rfl)) (fun _ _ _ h => h) (Or.inl ⟨by rfl, ?_⟩) ?_ ?_
                    rotate_left
                    · intro w'
                      go_simp
                      with_reducible rfl
                    rotate_left; (simp only [Act.put, List.setIfInBounds_toArray, List.set_cons_zero, List.set_cons_succ, i64_w, i32_w]; rfl)
                    refine pure_ (i := 3) (N := some 67) (v := undef) (a' := ?_) (dn_ 4 14) rfl rfl (any_of HT_.out (by kernel_rfl)) (fun _ _ _ h => h) (Or.inr ⟨by rfl, rfl⟩) ?_ ?_
                    rotate_left; (simp only [Act.put, List.setIfInBounds_toArray, List.set_cons_zero, List.set_cons_succ, i64_w, i32_w]; rfl)
                    refine pure_ (i := 4) (N := some 68) (v := undef) (a' := ?_) (dn_ 5 14) rfl rfl (any_of HT_.out (by kernel_rfl)) (fun _ _ _ h => h) (Or.inr ⟨by rfl, rfl⟩) ?_ ?_
                    rotate_left; (simp only [Act.put, List.setIfInBounds_toArray, List.set_cons_zero, List.set_cons_succ, i64_w, i32_w]; rfl)
                    refine pure_ (i := 5) (N := some 69) (v := undef) (a' := ?_) (dn_ 6 14) rfl rfl (any_of HT_.out (by kernel_rfl)) (fun _ _ _ h => h) (Or.inr ⟨by rfl, rfl⟩) ?_ ?_
                    rotate_left; (simp only [Act.put, List.setIfInBounds_toArray, List.set_cons_zero, List.set_cons_succ, i64_w, i32_w]; rfl)
                    refine pure_ (i := 6) (N := some 70) (v := undef) (a' := ?_) (dn_ 7 14) rfl rfl (any_of HT_.out (by kernel_rfl)) (fun _ _ _ h => h) (Or.inr ⟨by rfl, rfl⟩) ?_ ?_
                    rotate_left; (simp only [Act.put, List.setIfInBounds_toArray, List.set_cons_zero, List.set_cons_succ, i64_w, i32_w]; rfl)
                    refine pure_ (i := 7) (N := some 71) (v := undef) (a' := ?_) (dn_ 8 14) rfl rfl (any_of HT_.out (by kernel_rfl)) (fun _ _ _ h => h) (Or.inr ⟨by rfl, rfl⟩) ?_ ?_
                    rotate_left; (simp only [Act.put, List.setIfInBounds_toArray, List.set_cons_zero, List.set_cons_succ, i64_w, i32_w]; rfl)
                    refine pure_ (i := 8) (N := some 72) (v := undef) (a' := ?_) (dn_ 9 14) rfl rfl (any_of HT_.out (by kernel_rfl)) (fun _ _ _ h => h) (Or.inr ⟨by rfl, rfl⟩) ?_ ?_
                    rotate_left; (simp only [Act.put, List.setIfInBounds_toArray, List.set_cons_zero, List.set_cons_succ, i64_w, i32_w]; rfl)
                    refine pure_ (i := 9) (N := some 73) (v := undef) (a' := ?_) (dn_ 10 14) rfl rfl (any_of HT_.out (by kernel_rfl)) (fun _ _ _ h => h) (Or.inr ⟨by rfl, rfl⟩) ?_ ?_
                    rotate_left; (simp only [Act.put, List.setIfInBounds_toArray, List.set_cons_zero, List.set_cons_succ, i64_w, i32_w]; rfl)
                    refine pure_ (i := 10) (N := some 74) (v := undef) (a' := ?_) (dn_ 11 14) rfl rfl (any_of HT_.out (by kernel_rfl)) (fun _ _ _ h => h) (Or.inr ⟨by rfl, rfl⟩) ?_ ?_
                    rotate_left; (simp only [Act.put, List.setIfInBounds_toArray, List.set_cons_zero, List.set_cons_succ, i64_w, i32_w]; rfl)
                    refine pure_ (i := 11) (N := some 75) (v := undef) (a' := ?_) (dn_ 12 14) rfl rfl (any_of HT_.out (by kernel_rfl)) (fun _ _ _ h => h) (Or.inr ⟨by rfl, rfl⟩) ?_ ?_
                    rotate_left; (simp only [Act.put, List.setIfInBounds_toArray, List.set_cons_zero, List.set_cons_succ, i64_w, i32_w]; rfl)
                    refine pure_ (i := 12) (N := some 76) (v := undef) (a' := ?_) (dn_ 13 14) rfl rfl (any_of HT_.out (by kernel_rfl)) (fun _ _ _ h => h) (Or.inr ⟨by rfl, rfl⟩) ?_ ?_
                    rotate_left; (simp only [Act.put, List.setIfInBounds_toArray, List.set_cons_zero, List.set_cons_succ, i64_w, i32_w]; rfl)
                    refine pure_ (i := 13) (N := some 77) (v := ?_) (a' := ?_) #[true, true, true, true, true, true, true, true, true, true, true, true, true, true] rfl rfl (any_of HT_.out (by kernel_rfl)) (fun _ _ _ h => h) (Or.inl ⟨by rfl, ?_⟩) ?_ ?_
                    rotate_left
                    · intro w'
                      go_simp
                      with_reducible rfl
                    rotate_left; (simp only [Act.put, List.setIfInBounds_toArray, List.set_cons_zero, List.set_cons_succ, i64_w, i32_w]; rfl)
                    refine done_ (done_of HT_.out (by kernel_rfl)) ?_
                    try go_wp2
                    go_meet
                    case rel => exact ⟨_, (true), (by first | rfl | (simp; done) | (simp [*]; done)), H', ⟨by have := HJ9.out; have := HJ38.out; first | omega | exact Nat.le_refl _⟩, ⟨by (with_reducible repeat (first | apply Kd.R_alloc | apply Kd.R_drewN | apply Kd.R_drew)); exact HO_271001.out⟩, ⟨by (with_reducible repeat (first | apply Kd.R_alloc | apply Kd.R_drewN | apply Kd.R_drew)); exact HO_279001.out⟩, ⟨by (with_reducible repeat (first | refine blk_drewN ?_ _ | refine blk_drew ?_ | refine blk_alloc ?_ _)); exact BK259.out⟩, ⟨by (with_reducible repeat (first | refine blk_drewN ?_ _ | refine blk_drew ?_ | refine blk_alloc ?_ _)); exact BK270.out⟩, ⟨by (with_reducible repeat (first | refine blk_drewN ?_ _ | refine blk_drew ?_ | refine blk_alloc ?_ _)); exact BK271.out⟩, ⟨by (with_reducible repeat (first | refine blk_drewN ?_ _ | refine blk_drew ?_ | refine blk_alloc ?_ _)); exact BK278.out⟩, ⟨by repeat (with_reducible first | exact HB.out | apply pw_below_drewN | apply below_drew1 | refine below_set ?_ GE259.out | refine below_set ?_ GE270.out | refine below_set ?_ GE271.out | refine below_set ?_ GE278.out)⟩⟩
                  · rw [if_neg c54] at H
                    have c54b0 : ((t273.length : Int) == 0) = false := beq_eq_false_iff_ne.mpr c54
                    have c54b1 : ((t273.length : Int) != 0) = true := bne_iff_ne.mpr c54
                    have c54b2 : ¬ (t273 = []) := fun h_ => c54 (by rw [h_]; rfl)
                    (first | rw [c54b0] | (simp only [i64_w, i32_w]; rw [c54b0]) | skip)
                    obtain ⟨ji56, hji56⟩ : ∃ j_ : Int, (wrap64 ((t273.length : Int) - 1)) = j_ := ⟨_, rfl⟩
                    replace H : (if 0 ≤ (ji56) then (if (ji56) < (t273.length : Int) then (watchmanlaw21_PostAgain.j2 kj38 (t273.length : Int) (((rd_T35 t273 (ji56)).f0) != a0_0) a0_0 l0_1 t265 t266 t267 t268 t272 t273) else (none)) else (none)) = some r := by first | (rw [hji56] at H; exact H) | (simp only [hji56] at H ⊢; exact H)
                    have hji56w : (IntKind.i64.wrap ((t273.length : Int) - 1)) = ji56 := (i64_w _).trans hji56
                    by_cases c57 : 0 ≤ (ji56)
                    · rw [if_pos c57] at H
                      have c57b0 : decide (0 ≤ (ji56)) = true := decide_eq_true c57
                      clear c57
                      by_cases c58 : (ji56) < (t273.length : Int)
                      · rw [if_pos c58] at H
                        have c58b0 : decide ((ji56) < (t273.length : Int)) = true := decide_eq_true c58
                        clear c58
                        have H' := Aside0.mk H
                        clear H
                        try go_wp2
                        have n0_ := Aside0.mk (Kd.R_drew HO_271001.out)
                        have n1_ := Aside0.mk (Kd.R_drew HO_279001.out)
                        have n2_ := Aside0.mk (blk_drew BK259.out)
                        have n3_ := Aside0.mk (blk_drew BK270.out)
                        have n4_ := Aside0.mk (blk_drew BK271.out)
                        have n5_ := Aside0.mk (blk_drew BK278.out)
                        have n6_ := Aside0.mk (below_drew1 HB.out)
                        clear HO_271001
                        clear HO_279001
                        clear BK259
                        clear BK270
                        clear BK271
                        clear BK278
                        clear HB
                        have HO_271001 := n0_
                        have HO_279001 := n1_
                        have BK259 := n2_
                        have BK270 := n3_
                        have BK271 := n4_
                        have BK278 := n5_
                        have HB := n6_
                        clear n0_ n1_ n2_ n3_ n4_ n5_ n6_
                        have p280 : 0 ≤ ((ji56) : Int) := of_decide_eq_true (by first | (with_reducible assumption) | assumption)
                        have q280 : (ji56) < (t273.length : Int) := of_decide_eq_true (by first | (with_reducible assumption) | assumption)
                        obtain ⟨ad280, e280, hx280_0, hx280_1, hx280_2, hx280_3⟩ := at_T35 (Kd.R_reads' HO_279001.out).2.2 (ji56) p280 q280
                        cases e280
                        replace p280 := eq_true p280
                        replace q280 := eq_true q280
                        refine start_ (n := 14) (S := fun w' => w'.cell? ⟨gb278, 0, none⟩ = some (.int .i64 t272) ∧ w'.cell? ⟨gb278, 1, none⟩ = some (.slice (some ad280) t273.length co31) ∧ w'.cell? ⟨gb259, 0, none⟩ = some (.int .i64 a0_0) ∧ w'.cell? ⟨gb259, 1, none⟩ = some (.slice A0_1 l0_1.length c0_1) ∧ w'.cell? (ad280.add (((ji56)).toNat * 4)) = some (.int .i64 ((rd_T35 t273 (ji56)).f0)) ∧ w'.cell? ⟨(ad280.add (((ji56)).toNat * 4)).block, (ad280.add (((ji56)).toNat * 4)).off + 1, none⟩ = some (.int .i64 ((rd_T35 t273 (ji56)).f1)) ∧ w'.cell? ⟨(ad280.add (((ji56)).toNat * 4)).block, (ad280.add (((ji56)).toNat * 4)).off + 2, none⟩ = some (.int .i64 ((rd_T35 t273 (ji56)).f2)) ∧ w'.cell? ⟨(ad280.add (((ji56)).toNat * 4)).block, (ad280.add (((ji56)).toNat * 4)).off + 3, none⟩ = some (.string ((rd_T35 t273 (ji56)).f3))) (ds := []) #[false, false, false, false, false, false, false, false, false, false, false, false, false, false] (by kernel_rfl) rfl rfl ⟨(blk_cell BK278.out 0).trans rfl, (blk_cell BK278.out 1).trans rfl, (blk_cell BK259.out 0).trans rfl, (blk_cell BK259.out 1).trans rfl, hx280_0, hx280_1, hx280_2, hx280_3⟩ (fun hHeld => ?_); refine with_tabW watchmanlaw21_PostAgain.tab10 watchmanlaw21_PostAgain.bits10 (fun HT_ HW_ => ?_)
                        generalize wc.drew = w59 at HO_271001 HO_279001 BK259 BK270 BK271 BK278 HB hx280_0 hx280_1 hx280_2 hx280_3 hHeld ⊢
                        refine pure_ (i := 0) (N := some 64) (v := ?_) (a' := ?_) (dn_ 1 14) rfl rfl (any_of HT_.out (by kernel_rfl)) (fun _ _ _ h => h) (Or.inl ⟨by rfl, ?_⟩) ?_ ?_
                        rotate_left
                        · intro w'
                          go_simp
                          with_reducible rfl
                        rotate_left; (simp only [Act.put, List.setIfInBounds_toArray, List.set_cons_zero, List.set_cons_succ, i64_w, i32_w]; rfl)
                        refine pure_ (i := 1) (N := some 65) (v := ?_) (a' := ?_) (dn_ 2 14) rfl rfl (any_of HT_.out (by kernel_rfl)) (fun _ _ _ h => h) (Or.inl ⟨by rfl, ?_⟩) ?_ ?_
                        rotate_left
                        · intro w'
                          go_simp
                          with_reducible rfl
                        rotate_left; (simp only [Act.put, List.setIfInBounds_toArray, List.set_cons_zero, List.set_cons_succ, i64_w, i32_w]; rfl)
                        refine pure_ (i := 2) (N := some 66) (v := ?_) (a' := ?_) (dn_ 3 14) rfl rfl (any_of HT_.out (by kernel_rfl)) (fun _ _ _ h => h) (Or.inl ⟨by rfl, ?_⟩) ?_ ?_
                        rotate_left
                        · intro w'
                          go_simp
                          with_reducible rfl
                        rotate_left; (simp only [Act.put, List.setIfInBounds_toArray, List.set_cons_zero, List.set_cons_succ, i64_w, i32_w]; rfl)
                        refine pure_ (i := 3) (N := some 67) (v := ?_) (a' := ?_) (dn_ 4 14) rfl rfl (any_of HT_.out (by kernel_rfl)) (fun _ _ _ h => h) (Or.inl ⟨by rfl, ?_⟩) ?_ ?_
                        rotate_left
                        · intro w'
                          go_simp
                          with_reducible rfl
                        rotate_left; (simp only [Act.put, List.setIfInBounds_toArray, List.set_cons_zero, List.set_cons_succ, i64_w, i32_w]; rfl)
                        refine pure_ (i := 5) (N := some 69) (v := ?_) (a' := ?_) #[true, true, true, true, false, true, false, false, false, false, false, false, false, false] rfl rfl (any_of HT_.out (by kernel_rfl)) (fun _ _ _ h => h) (Or.inl ⟨by rfl, ?_⟩) ?_ ?_
                        rotate_left
                        · intro w'
                          go_simp
                          with_reducible rfl
                        rotate_left; (simp only [Act.put, List.setIfInBounds_toArray, List.set_cons_zero, List.set_cons_succ, i64_w, i32_w]; rfl)
                        refine pure_ (i := 6) (N := some 70) (v := ?_) (a' := ?_) #[true, true, true, true, false, true, true, false, false, false, false, false, false, false] rfl rfl (any_of HT_.out (by kernel_rfl)) (fun _ _ _ h => h) (Or.inl ⟨by rfl, ?_⟩) ?_ ?_
                        rotate_left
                        · intro w'
                          go_simp
                          with_reducible rfl
                        rotate_left; (simp only [Act.put, List.setIfInBounds_toArray, List.set_cons_zero, List.set_cons_succ, i64_w, i32_w]; rfl)
                        refine pure_ (i := 10) (N := some 74) (v := ?_) (a' := ?_) #[true, true, true, true, false, true, true, false, false, false, true, false, false, false] rfl rfl (any_of HT_.out (by kernel_rfl)) (fun _ _ _ h => h) (Or.inl ⟨by rfl, ?_⟩) ?_ ?_
                        rotate_left
                        · intro w'
                          go_simp
                          with_reducible rfl
                        rotate_left; (simp only [Act.put, List.setIfInBounds_toArray, List.set_cons_zero, List.set_cons_succ, i64_w, i32_w]; rfl)
                        refine take_ (i := 4) (N := some 68) (v := ?_) (a' := ?_) #[true, true, true, true, true, true, true, false, false, false, true, false, false, false] rfl rfl (take_ofW HT_.out HW_.out (by kernel_rfl)) (fun _ _ _ h => h) (Or.inl ⟨by rfl, ?_⟩) hHeld ?_ ?_
                        rotate_left
                        · rintro w' ⟨s0, s1, s2, s3, s4, s5, s6, s7⟩
                          go_simp
                          with_reducible rfl
                        rotate_left; (simp only [Act.put, List.setIfInBounds_toArray, List.set_cons_zero, List.set_cons_succ, i64_w, i32_w]; rfl)
                        refine pure_ (i := 7) (N := some 71) (v := ?_) (a' := ?_) #[true, true, true, true, true, true, true, true, false, false, true, false, false, false] rfl rfl (any_of HT_.out (by kernel_rfl)) (fun _ _ _ h => h) (Or.inl ⟨by rfl, ?_⟩) ?_ ?_
                        rotate_left
                        · intro w'
                          go_simp
                          with_reducible rfl
                        rotate_left; (simp only [Act.put, List.setIfInBounds_toArray, List.set_cons_zero, List.set_cons_succ, i64_w, i32_w]; rfl)
                        refine pure_ (i := 8) (N := some 72) (v := ?_) (a' := ?_) #[true, true, true, true, true, true, true, true, true, false, true, false, false, false] rfl rfl (any_of HT_.out (by kernel_rfl)) (fun _ _ _ h => h) (Or.inl ⟨by rfl, ?_⟩) ?_ ?_
                        rotate_left
                        · intro w'
                          go_simp
                          with_reducible rfl
                        rotate_left; (simp only [Act.put, List.setIfInBounds_toArray, List.set_cons_zero, List.set_cons_succ, i64_w, i32_w]; rfl)
                        refine take_ (i := 9) (N := some 73) (v := ?_) (a' := ?_) (dn_ 11 14) rfl rfl (take_ofW HT_.out HW_.out (by kernel_rfl)) (fun _ _ _ h => h) (Or.inl ⟨by rfl, ?_⟩) hHeld ?_ ?_
                        rotate_left
                        · rintro w' ⟨s0, s1, s2, s3, s4, s5, s6, s7⟩
                          go_simp
                          with_reducible rfl
                        rotate_left; (simp only [Act.put, List.setIfInBounds_toArray, List.set_cons_zero, List.set_cons_succ, i64_w, i32_w]; rfl)
                        refine take_ (i := 11) (N := some 75) (v := ?_) (a' := ?_) (dn_ 12 14) rfl rfl (take_ofW HT_.out HW_.out (by kernel_rfl)) (fun _ _ _ h => h) (Or.inl ⟨by rfl, ?_⟩) hHeld ?_ ?_
                        rotate_left
                        · rintro w' ⟨s0, s1, s2, s3, s4, s5, s6, s7⟩
                          go_simp
                          with_reducible rfl
                        rotate_left; (simp only [Act.put, List.setIfInBounds_toArray, List.set_cons_zero, List.set_cons_succ, i64_w, i32_w]; rfl)
                        refine pure_ (i := 12) (N := some 76) (v := ?_) (a' := ?_) (dn_ 13 14) rfl rfl (any_of HT_.out (by kernel_rfl)) (fun _ _ _ h => h) (Or.inl ⟨by rfl, ?_⟩) ?_ ?_
                        rotate_left
                        · intro w'
                          go_simp
                          with_reducible rfl
                        rotate_left; (simp only [Act.put, List.setIfInBounds_toArray, List.set_cons_zero, List.set_cons_succ, i64_w, i32_w]; rfl)
                        refine pure_ (i := 13) (N := some 77) (v := ?_) (a' := ?_) #[true, true, true, true, true, true, true, true, true, true, true, true, true, true] rfl rfl (any_of HT_.out (by kernel_rfl)) (fun _ _ _ h => h) (Or.inl ⟨by rfl, ?_⟩) ?_ ?_
                        rotate_left
                        · intro w'
                          go_simp
                          with_reducible rfl
                        rotate_left; (simp only [Act.put, List.setIfInBounds_toArray, List.set_cons_zero, List.set_cons_succ, i64_w, i32_w]; rfl)
                        refine done_ (done_of HT_.out (by kernel_rfl)) ?_
                        try go_wp2
                        go_meet
                        case rel => exact ⟨_, ((((rd_T35 t273 (ji56)).f0) != a0_0)), (by first | rfl | (simp; done) | (simp only [← hji56] <;> (first | rfl | simp)) | (simp [*]; done)), H', ⟨by have := HJ9.out; have := HJ38.out; first | omega | exact Nat.le_refl _⟩, ⟨by (with_reducible repeat (first | apply Kd.R_alloc | apply Kd.R_drewN | apply Kd.R_drew)); exact HO_271001.out⟩, ⟨by (with_reducible repeat (first | apply Kd.R_alloc | apply Kd.R_drewN | apply Kd.R_drew)); exact HO_279001.out⟩, ⟨by (with_reducible repeat (first | refine blk_drewN ?_ _ | refine blk_drew ?_ | refine blk_alloc ?_ _)); exact BK259.out⟩, ⟨by (with_reducible repeat (first | refine blk_drewN ?_ _ | refine blk_drew ?_ | refine blk_alloc ?_ _)); exact BK270.out⟩, ⟨by (with_reducible repeat (first | refine blk_drewN ?_ _ | refine blk_drew ?_ | refine blk_alloc ?_ _)); exact BK271.out⟩, ⟨by (with_reducible repeat (first | refine blk_drewN ?_ _ | refine blk_drew ?_ | refine blk_alloc ?_ _)); exact BK278.out⟩, ⟨by repeat (with_reducible first | exact HB.out | apply pw_below_drewN | apply below_drew1 | refine below_set ?_ GE259.out | refine below_set ?_ GE270.out | refine below_set ?_ GE271.out | refine below_set ?_ GE278.out)⟩⟩
                      · rw [if_neg c58] at H
                        exact absurd H (by simp)
                    · rw [if_neg c57] at H
                      exact absurd H (by simp)
                case rest =>
                  clear HC53
                  try clear c1
                  try clear c2
                  try clear p2
                  try clear q2
                  try clear hx2
                  try clear c3
                  try clear c4
                  try clear c5
                  try clear p6
                  try clear c7
                  try clear c8
                  try clear c13
                  try clear c15
                  try clear c18
                  try clear c19
                  try clear c22
                  try clear c24
                  try clear c27
                  try clear c28
                  try clear p28
                  try clear q28
                  try clear hx28
                  try clear c29
                  try clear c32
                  try clear c32b0
                  try clear c32b1
                  try clear c33
                  try clear c35
                  try clear c36
                  try clear c36b0
                  try clear c36b1
                  try clear c40
                  try clear c41
                  try clear c42
                  try clear c44
                  try clear c44b0
                  try clear c44b1
                  try clear c45
                  try clear c46
                  try clear c47
                  try clear c49
                  try clear c50
                  try clear c52
                  try clear c54
                  try clear c54b0
                  try clear c54b1
                  try clear c54b2
                  try clear c57
                  try clear c57b0
                  try clear c58
                  try clear c58b0
                  try clear hcz12_0
                  try clear hcz12_1
                  try clear hcz14_0
                  try clear hcz14_1
                  try clear hcz20_0
                  try clear hcz20_1
                  try clear hcz23_0
                  try clear hcz23_1
                  try clear hcz23_2
                  try clear hcz23_3
                  try clear hcz24_0
                  try clear hcz24_1
                  try clear hcz30_0
                  try clear hcz30_1
                  try clear hcz43_0
                  try clear hcz43_1
                  try clear hcz48_0
                  try clear hcz48_1
                  try clear hcz51_0
                  try clear hcz51_1
                  try clear hcz6_0
                  try clear hcz6_1
                  try clear hfz12_0
                  try clear hfz12_1
                  try clear hfz14_0
                  try clear hfz14_1
                  try clear hfz20_0
                  try clear hfz20_1
                  try clear hfz23_0
                  try clear hfz23_1
                  try clear hfz23_2
                  try clear hfz23_3
                  try clear hfz24_0
                  try clear hfz24_1
                  try clear hfz30_0
                  try clear hfz30_1
                  try clear hfz43_0
                  try clear hfz43_1
                  try clear hfz48_0
                  try clear hfz48_1
                  try clear hfz51_0
                  try clear hfz51_1
                  try clear hfz6_0
                  try clear hfz6_1
                  try clear hx280_0
                  try clear hx280_1
                  try clear hx280_2
                  try clear hx280_3
                  try clear p2
                  try clear p280
                  try clear p6
                  try clear q280
                  obtain ⟨kq, x77_52, rfl, HA, HJ52, HO_271001, HO_279001, BK259, BK270, BK271, BK278, HB⟩ := hcut
                  cases kq with
                  | zero => exact absurd HA.out (by simp [watchmanlaw21_PostAgain.j2])
                  | succ kj52 =>
                    have H := HA.out
                    clear HA
                    simp only [watchmanlaw21_PostAgain.j2] at H
                    by_cases c60 : x77_52 = true
                    · subst c60
                      have H1 : ((watchmanlaw21_posted.f kj52).bind fun t281 => (if t281 = true then (some ((l0_1.length : Int) == 200)) else (none))) = some r := by rw [if_pos rfl] at H; exact H
                      clear H
                      have H := H1
                      clear H1
                      replace H := Option.bind_eq_some_iff.mp H
                      obtain ⟨t281, A610, H⟩ := H
                      replace H : (if t281 = true then (some ((l0_1.length : Int) == 200)) else (none)) = some r := H
                      have A61 := Aside0.mk A610
                      clear A610
                      by_cases c62 : t281 = true
                      · subst c62
                        have H1 : (some ((l0_1.length : Int) == 200)) = some r := by rw [if_pos rfl] at H; exact H
                        clear H
                        have H := H1
                        clear H1
                        obtain rfl := Option.some.inj H
                        go_wp2_with (first | ((with_reducible refine gate_callee (f := 24) rfl ?_); refine goesL_ (some 78) rfl rfl Try.func24 (by kernel_rfl) rfl #[] rfl (by (try simp only [List.map_toArray, List.map_cons, List.map_nil]); first | done | rfl | (simp only [List.length_drop, List.length_take]; rfl)) ?_; (with_reducible refine (watchmanlaw21_posted.calls kj52  true _ A61.out).mono ?_); rintro e w63 ⟨rfl, hb⟩; refine ⟨_, rfl, ?_⟩; have n0_ := Aside0.mk (Kd.R_below (HO_271001.out) hb); have n1_ := Aside0.mk (Kd.R_below (HO_279001.out) hb); have n2_ := Aside0.mk (blk_below BK259.out hb); have n3_ := Aside0.mk (blk_below BK270.out hb); have n4_ := Aside0.mk (blk_below BK271.out hb); have n5_ := Aside0.mk (blk_below BK278.out hb); have n6_ := Aside0.mk (below_step (by repeat (with_reducible first | exact HB.out | apply pw_below_drewN | apply below_drew1 | refine below_set ?_ GE259.out | refine below_set ?_ GE270.out | refine below_set ?_ GE271.out | refine below_set ?_ GE278.out)) hb); clear HO_271001; clear HO_279001; clear BK259; clear BK270; clear BK271; clear BK278; clear HB; have HO_271001 := n0_; have HO_279001 := n1_; have BK259 := n2_; have BK270 := n3_; have BK271 := n4_; have BK278 := n5_; have HB := n6_; clear n0_ n1_ n2_ n3_ n4_ n5_ n6_; (try clear hb); (try clear hb2); (try clear hk); (try clear hi); have hnb64 := NB259_270.out; have hnc64 := NB270_259.out; have hnb65 := NB259_271.out; have hnc65 := NB271_259.out; have hnb66 := NB259_278.out; have hnc66 := NB278_259.out; have hcz67_0 : w63.cell? ⟨gb259, 0, none⟩ = some (.int .i64 a0_0) := (blk_cell BK259.out 0).trans rfl; have hcz67_1 : w63.cell? ⟨gb259, 1, none⟩ = some (.slice A0_1 l0_1.length c0_1) := (blk_cell BK259.out 1).trans rfl; have hfz67_0 := blk_frozen BK259.out 0; have hfz67_1 := blk_frozen BK259.out 1))
                        go_ret
                        exact ⟨by first | rfl | (simp [errW_none, errW_some] <;> rfl) | (simp [*, errW_none, errW_some] <;> rfl), by repeat (with_reducible first | exact HB.out | apply pw_below_drewN | apply below_drew1 | refine below_set ?_ GE259.out | refine below_set ?_ GE270.out | refine below_set ?_ GE271.out | refine below_set ?_ GE278.out)⟩
                      · replace c62 := Bool.eq_false_iff.mpr c62
                        subst c62
                        have H1 : (none) = some r := by rw [if_neg (show ¬ (false = true) by decide)] at H; exact H
                        clear H
                        have H := H1
                        clear H1
                        exact absurd H (by simp)
                    · replace c60 := Bool.eq_false_iff.mpr c60
                      subst c60
                      have H1 : (if 0 ≤ (wrap64 ((t273.length : Int) - 1)) then (if (wrap64 ((t273.length : Int) - 1)) < (t273.length : Int) then ((watchmanlaw21_posted.f kj52).bind fun t284 => (if t284 = true then (if ((rd_T35 t273 (wrap64 ((t273.length : Int) - 1))).f1) = t266 then (if ((rd_T35 t273 (wrap64 ((t273.length : Int) - 1))).f2) = t267 then (if ((rd_T35 t273 (wrap64 ((t273.length : Int) - 1))).f3).toList = t268.toList then ((post_To.f t272 t273 t267).bind fun t285 => ((post_To.f a0_0 l0_1 t267).bind fun t288 => (some (decide ((t285.length : Int) ≤ (mx 20 (t288.length : Int))))))) else (none)) else (none)) else (none)) else (none))) else (none)) else (none)) = some r := by rw [if_neg (show ¬ (false = true) by decide)] at H; exact H
                      clear H
                      have H := H1
                      clear H1
                      obtain ⟨ji68, hji68⟩ : ∃ j_ : Int, (wrap64 ((t273.length : Int) - 1)) = j_ := ⟨_, rfl⟩
                      replace H : (if 0 ≤ (ji68) then (if (ji68) < (t273.length : Int) then ((watchmanlaw21_posted.f kj52).bind fun t284 => (if t284 = true then (if ((rd_T35 t273 (ji68)).f1) = t266 then (if ((rd_T35 t273 (ji68)).f2) = t267 then (if ((rd_T35 t273 (ji68)).f3).toList = t268.toList then ((post_To.f t272 t273 t267).bind fun t285 => ((post_To.f a0_0 l0_1 t267).bind fun t288 => (some (decide ((t285.length : Int) ≤ (mx 20 (t288.length : Int))))))) else (none)) else (none)) else (none)) else (none))) else (none)) else (none)) = some r := by first | (rw [hji68] at H; exact H) | (simp only [hji68] at H ⊢; exact H)
                      have hji68w : (IntKind.i64.wrap ((t273.length : Int) - 1)) = ji68 := (i64_w _).trans hji68
                      by_cases c69 : 0 ≤ (ji68)
                      · rw [if_pos c69] at H
                        have c69b0 : decide (0 ≤ (ji68)) = true := decide_eq_true c69
                        clear c69
                        by_cases c70 : (ji68) < (t273.length : Int)
                        · rw [if_pos c70] at H
                          have c70b0 : decide ((ji68) < (t273.length : Int)) = true := decide_eq_true c70
                          clear c70
                          replace H := Option.bind_eq_some_iff.mp H
                          obtain ⟨t284, A710, H⟩ := H
                          replace H : (if t284 = true then (if ((rd_T35 t273 (ji68)).f1) = t266 then (if ((rd_T35 t273 (ji68)).f2) = t267 then (if ((rd_T35 t273 (ji68)).f3).toList = t268.toList then ((post_To.f t272 t273 t267).bind fun t285 => ((post_To.f a0_0 l0_1 t267).bind fun t288 => (some (decide ((t285.length : Int) ≤ (mx 20 (t288.length : Int))))))) else (none)) else (none)) else (none)) else (none)) = some r := H
                          have A71 := Aside0.mk A710
                          clear A710
                          by_cases c72 : t284 = true
                          · subst c72
                            have H1 : (if ((rd_T35 t273 (ji68)).f1) = t266 then (if ((rd_T35 t273 (ji68)).f2) = t267 then (if ((rd_T35 t273 (ji68)).f3).toList = t268.toList then ((post_To.f t272 t273 t267).bind fun t285 => ((post_To.f a0_0 l0_1 t267).bind fun t288 => (some (decide ((t285.length : Int) ≤ (mx 20 (t288.length : Int))))))) else (none)) else (none)) else (none)) = some r := by rw [if_pos rfl] at H; exact H
                            clear H
                            have H := H1
                            clear H1
                            by_cases c73 : ((rd_T35 t273 (ji68)).f1) = t266
                            · rw [if_pos c73] at H
                              have c73b0 : (((rd_T35 t273 (ji68)).f1) == t266) = true := beq_iff_eq.mpr c73
                              have c73b1 : (((rd_T35 t273 (ji68)).f1) != t266) = false := bne_eq_false_iff_eq.mpr c73
                              clear c73
                              by_cases c74 : ((rd_T35 t273 (ji68)).f2) = t267
                              · rw [if_pos c74] at H
                                have c74b0 : (((rd_T35 t273 (ji68)).f2) == t267) = true := beq_iff_eq.mpr c74
                                have c74b1 : (((rd_T35 t273 (ji68)).f2) != t267) = false := bne_eq_false_iff_eq.mpr c74
                                clear c74
                                by_cases c75 : ((rd_T35 t273 (ji68)).f3).toList = t268.toList
                                · rw [if_pos c75] at H
                                  have c75b0 : (((rd_T35 t273 (ji68)).f3).toList == t268.toList) = true := beq_iff_eq.mpr c75
                                  have c75b1 : (((rd_T35 t273 (ji68)).f3).toList != t268.toList) = false := bne_eq_false_iff_eq.mpr c75
                                  clear c75
                                  replace H := Option.bind_eq_some_iff.mp H
                                  obtain ⟨t285, A760, H⟩ := H
                                  replace H : ((post_To.f a0_0 l0_1 t267).bind fun t288 => (some (decide ((t285.length : Int) ≤ (mx 20 (t288.length : Int)))))) = some r := H
                                  have A76 := Aside0.mk A760
                                  clear A760
                                  replace H := Option.bind_eq_some_iff.mp H
                                  obtain ⟨t288, A770, H⟩ := H
                                  replace H : (some (decide ((t285.length : Int) ≤ (mx 20 (t288.length : Int))))) = some r := H
                                  have A77 := Aside0.mk A770
                                  clear A770
                                  obtain ⟨ji78, hji78⟩ : ∃ j_ : Int, (mx 20 (t288.length : Int)) = j_ := ⟨_, rfl⟩
                                  replace H : (some (decide ((t285.length : Int) ≤ (ji78)))) = some r := by first | (rw [hji78] at H; exact H) | (simp only [hji78] at H ⊢; exact H)
                                  (try rw [hji78] at A71)
                                  (try rw [hji78] at A76)
                                  (try rw [hji78] at A77)
                                  (try (have hji78l : 20 ≤ ji78 := by (rw [← hji78]; unfold mx; (repeat' split) <;> omega)))
                                  (try (have hji78m : 0 ≤ ji78 := by omega))
                                  have hji78_ : (if 20 < (t288.length : Int) then (t288.length : Int) else 20) = ji78 := hji78
                                  obtain rfl := Option.some.inj H
                                  have hnb79 := NB278_259.out
                                  have hnc79 := NB259_278.out
                                  have hnb80 := NB278_270.out
                                  have hnc80 := NB270_278.out
                                  have hnb81 := NB278_271.out
                                  have hnc81 := NB271_278.out
                                  have hcz82_0 : wc.cell? ⟨gb278, 0, none⟩ = some (.int .i64 t272) := (blk_cell BK278.out 0).trans rfl
                                  have hcz82_1 : wc.cell? ⟨gb278, 1, none⟩ = some (.slice Ao31 t273.length co31) := (blk_cell BK278.out 1).trans rfl
                                  have hfz82_0 := blk_frozen BK278.out 0
                                  have hfz82_1 := blk_frozen BK278.out 1
                                  have p282 : 0 ≤ ((ji68) : Int) := of_decide_eq_true (by first | (with_reducible assumption) | assumption)
                                  have q282 : (ji68) < (t273.length : Int) := of_decide_eq_true (by first | (with_reducible assumption) | assumption)
                                  obtain ⟨ad282, e282, hx282_0, hx282_1, hx282_2, hx282_3⟩ := at_T35 (Kd.R_reads' HO_279001.out).2.2 (ji68) p282 q282
                                  cases e282
                                  replace p282 := eq_true p282
                                  replace q282 := eq_true q282
                                  try go_wp2_with (first | ((with_reducible refine gate_dst (N := 12) rfl ?_); (try (refine gate_guard (by rfl) ?_; dsimp only)); refine box_event ?hg (N := 12) ?hd (cs := #[.int .i64 0, .int .i64 0, .int .i64 0, .string (⟨#[]⟩ : ByteArray)]) (t := 35) ?hr ?_; (case hd => rfl); (case hg => rfl); (case hr => first | (go_simp; done) | (go_simp; rfl)); intro gb283 hg w83 hbox hb; have n0_ := Aside0.mk (Kd.R_below (Kd.R_elderB (HO_271001.out) gb283 (Nat.le_of_eq hg.symm)) hb); have n1_ := Aside0.mk (Kd.R_below (Kd.R_elderB (HO_279001.out) gb283 (Nat.le_of_eq hg.symm)) hb); have n2_ := Aside0.mk (blk_below BK259.out hb); have n3_ := Aside0.mk (blk_below BK270.out hb); have n4_ := Aside0.mk (blk_below BK271.out hb); have n5_ := Aside0.mk (blk_below BK278.out hb); have n6_ := Aside0.mk (below_step (by repeat (with_reducible first | exact HB.out | apply pw_below_drewN | apply below_drew1 | refine below_set ?_ GE259.out | refine below_set ?_ GE270.out | refine below_set ?_ GE271.out | refine below_set ?_ GE278.out)) hb); have n7_ := Aside0.mk (hbox); have n8_ := Aside0.mk ((by rw [hg]; exact (below_size (by repeat (with_reducible first | exact HB.out | apply pw_below_drewN | apply below_drew1 | refine below_set ?_ GE259.out | refine below_set ?_ GE270.out | refine below_set ?_ GE271.out | refine below_set ?_ GE278.out))) : w.heap.size ≤ gb283)); have n9_ := Aside0.mk ((by rw [hg]; exact (below_size (by repeat (with_reducible first | exact HB.out | apply pw_below_drewN | apply below_drew1 | refine below_set ?_ GE259.out | refine below_set ?_ GE270.out | refine below_set ?_ GE271.out | refine below_set ?_ GE278.out))) : w.heap.size ≤ gb283)); have n10_ := Aside0.mk ((by rw [hg]; exact Nat.ne_of_lt (blk_lt BK259.out) : gb259 ≠ gb283)); have n11_ := Aside0.mk ((by rw [hg]; exact Nat.ne_of_gt (blk_lt BK259.out) : gb283 ≠ gb259)); have n12_ := Aside0.mk ((by rw [hg]; exact Nat.ne_of_lt (blk_lt BK270.out) : gb270 ≠ gb283)); have n13_ := Aside0.mk ((by rw [hg]; exact Nat.ne_of_gt (blk_lt BK270.out) : gb283 ≠ gb270)); have n14_ := Aside0.mk ((by rw [hg]; exact Nat.ne_of_lt (blk_lt BK271.out) : gb271 ≠ gb283)); have n15_ := Aside0.mk ((by rw [hg]; exact Nat.ne_of_gt (blk_lt BK271.out) : gb283 ≠ gb271)); have n16_ := Aside0.mk ((by rw [hg]; exact Nat.ne_of_lt (blk_lt BK278.out) : gb278 ≠ gb283)); have n17_ := Aside0.mk ((by rw [hg]; exact Nat.ne_of_gt (blk_lt BK278.out) : gb283 ≠ gb278)); clear HO_271001; clear HO_279001; clear BK259; clear BK270; clear BK271; clear BK278; clear HB; have HO_271001 := n0_; have HO_279001 := n1_; have BK259 := n2_; have BK270 := n3_; have BK271 := n4_; have BK278 := n5_; have HB := n6_; have BK283 := n7_; have GW283 := n8_; have GE283 := n9_; have NB259_283 := n10_; have NB283_259 := n11_; have NB270_283 := n12_; have NB283_270 := n13_; have NB271_283 := n14_; have NB283_271 := n15_; have NB278_283 := n16_; have NB283_278 := n17_; clear n0_ n1_ n2_ n3_ n4_ n5_ n6_ n7_ n8_ n9_ n10_ n11_ n12_ n13_ n14_ n15_ n16_ n17_; clear hb hbox hg; have hnb84 := NB283_259.out; have hnc84 := NB259_283.out; have hnb85 := NB283_270.out; have hnc85 := NB270_283.out; have hnb86 := NB283_271.out; have hnc86 := NB271_283.out; have hnb87 := NB283_278.out; have hnc87 := NB278_283.out; have hcz88_0 : w83.cell? ⟨gb283, 0, none⟩ = some (.int .i64 0) := (blk_cell BK283.out 0).trans rfl; have hcz88_1 : w83.cell? ⟨gb283, 1, none⟩ = some (.int .i64 0) := (blk_cell BK283.out 1).trans rfl; have hcz88_2 : w83.cell? ⟨gb283, 2, none⟩ = some (.int .i64 0) := (blk_cell BK283.out 2).trans rfl; have hcz88_3 : w83.cell? ⟨gb283, 3, none⟩ = some (.string (⟨#[]⟩ : ByteArray)) := (blk_cell BK283.out 3).trans rfl; have hfz88_0 := blk_frozen BK283.out 0; have hfz88_1 := blk_frozen BK283.out 1; have hfz88_2 := blk_frozen BK283.out 2; have hfz88_3 := blk_frozen BK283.out 3))
                                  have n0_ : Aside0 (Kd.R k35 35 ((((w83.setCell ⟨gb283, 0, none⟩ (.int .i64 ((rd_T35 t273 (ji68)).f0))).setCell ⟨gb283, 1, none⟩ (.int .i64 ((rd_T35 t273 (ji68)).f1))).setCell ⟨gb283, 2, none⟩ (.int .i64 ((rd_T35 t273 (ji68)).f2))).setCell ⟨gb283, 3, none⟩ (.string ((rd_T35 t273 (ji68)).f3))) w.heap.size (fun k_ => some k_ ≠ (.slice (some ad282) t273.length co31 : Value).ownBlock ∧ k_ ≠ gb271 ∧ k_ ≠ gb283) (.slice Ao21 t262.length co21) t262) := ⟨by (with_reducible repeat (first | apply Kd.R_alloc | apply Kd.R_drewN | apply Kd.R_drew)); exact Kd.R_mono (Kd.R_far (p := ⟨gb283, 3, none⟩) (Kd.R_far (p := ⟨gb283, 2, none⟩) (Kd.R_far (p := ⟨gb283, 1, none⟩) (Kd.R_far (p := ⟨gb283, 0, none⟩) (Kd.R_mono HO_271001.out (fun k_ hk => (⟨hk, hk.2⟩ : _ ∧ k_ ≠ gb283))) (fun _ hk => hk.2) (.int .i64 ((rd_T35 t273 (ji68)).f0))) (fun _ hk => hk.2) (.int .i64 ((rd_T35 t273 (ji68)).f1))) (fun _ hk => hk.2) (.int .i64 ((rd_T35 t273 (ji68)).f2))) (fun _ hk => hk.2) (.string ((rd_T35 t273 (ji68)).f3))) (fun _ hk => ⟨hk.1.1.1, ⟨hk.1.1.2, hk.1.2⟩⟩)⟩
                                  have n1_ : Aside0 (Kd.R k35 35 ((((w83.setCell ⟨gb283, 0, none⟩ (.int .i64 ((rd_T35 t273 (ji68)).f0))).setCell ⟨gb283, 1, none⟩ (.int .i64 ((rd_T35 t273 (ji68)).f1))).setCell ⟨gb283, 2, none⟩ (.int .i64 ((rd_T35 t273 (ji68)).f2))).setCell ⟨gb283, 3, none⟩ (.string ((rd_T35 t273 (ji68)).f3))) w.heap.size (fun k_ => some k_ ≠ (.slice Ao21 t262.length co21 : Value).ownBlock ∧ k_ ≠ gb271 ∧ k_ ≠ gb283) (.slice (some ad282) t273.length co31) t273) := ⟨by (with_reducible repeat (first | apply Kd.R_alloc | apply Kd.R_drewN | apply Kd.R_drew)); exact Kd.R_mono (Kd.R_far (p := ⟨gb283, 3, none⟩) (Kd.R_far (p := ⟨gb283, 2, none⟩) (Kd.R_far (p := ⟨gb283, 1, none⟩) (Kd.R_far (p := ⟨gb283, 0, none⟩) (Kd.R_mono HO_279001.out (fun k_ hk => (⟨hk, hk.2⟩ : _ ∧ k_ ≠ gb283))) (fun _ hk => hk.2) (.int .i64 ((rd_T35 t273 (ji68)).f0))) (fun _ hk => hk.2) (.int .i64 ((rd_T35 t273 (ji68)).f1))) (fun _ hk => hk.2) (.int .i64 ((rd_T35 t273 (ji68)).f2))) (fun _ hk => hk.2) (.string ((rd_T35 t273 (ji68)).f3))) (fun _ hk => ⟨hk.1.1.1, ⟨hk.1.1.2, hk.1.2⟩⟩)⟩
                                  have n2_ : Aside0 (((((w83.setCell ⟨gb283, 0, none⟩ (.int .i64 ((rd_T35 t273 (ji68)).f0))).setCell ⟨gb283, 1, none⟩ (.int .i64 ((rd_T35 t273 (ji68)).f1))).setCell ⟨gb283, 2, none⟩ (.int .i64 ((rd_T35 t273 (ji68)).f2))).setCell ⟨gb283, 3, none⟩ (.string ((rd_T35 t273 (ji68)).f3))).heap[gb259]? = some (.cells #[.int .i64 a0_0, .slice A0_1 l0_1.length c0_1] 24 (0, 0))) := ⟨by refine blk_far ?_ NB259_283.out _; refine blk_far ?_ NB259_283.out _; refine blk_far ?_ NB259_283.out _; refine blk_far ?_ NB259_283.out _; exact BK259.out⟩
                                  have n3_ : Aside0 (((((w83.setCell ⟨gb283, 0, none⟩ (.int .i64 ((rd_T35 t273 (ji68)).f0))).setCell ⟨gb283, 1, none⟩ (.int .i64 ((rd_T35 t273 (ji68)).f1))).setCell ⟨gb283, 2, none⟩ (.int .i64 ((rd_T35 t273 (ji68)).f2))).setCell ⟨gb283, 3, none⟩ (.string ((rd_T35 t273 (ji68)).f3))).heap[gb270]? = some (.cells #[.int .i64 t261, .slice Ao21 t262.length co21] 24 (0, 0))) := ⟨by refine blk_far ?_ NB270_283.out _; refine blk_far ?_ NB270_283.out _; refine blk_far ?_ NB270_283.out _; refine blk_far ?_ NB270_283.out _; exact BK270.out⟩
                                  have n4_ : Aside0 (((((w83.setCell ⟨gb283, 0, none⟩ (.int .i64 ((rd_T35 t273 (ji68)).f0))).setCell ⟨gb283, 1, none⟩ (.int .i64 ((rd_T35 t273 (ji68)).f1))).setCell ⟨gb283, 2, none⟩ (.int .i64 ((rd_T35 t273 (ji68)).f2))).setCell ⟨gb283, 3, none⟩ (.string ((rd_T35 t273 (ji68)).f3))).heap[gb271]? = some (.cells #[.int .i64 t265, .int .i64 t266, .int .i64 t267, .string t268] 35 (0, 0))) := ⟨by refine blk_far ?_ NB271_283.out _; refine blk_far ?_ NB271_283.out _; refine blk_far ?_ NB271_283.out _; refine blk_far ?_ NB271_283.out _; exact BK271.out⟩
                                  have n5_ : Aside0 (((((w83.setCell ⟨gb283, 0, none⟩ (.int .i64 ((rd_T35 t273 (ji68)).f0))).setCell ⟨gb283, 1, none⟩ (.int .i64 ((rd_T35 t273 (ji68)).f1))).setCell ⟨gb283, 2, none⟩ (.int .i64 ((rd_T35 t273 (ji68)).f2))).setCell ⟨gb283, 3, none⟩ (.string ((rd_T35 t273 (ji68)).f3))).heap[gb278]? = some (.cells #[.int .i64 t272, .slice (some ad282) t273.length co31] 24 (0, 0))) := ⟨by refine blk_far ?_ NB278_283.out _; refine blk_far ?_ NB278_283.out _; refine blk_far ?_ NB278_283.out _; refine blk_far ?_ NB278_283.out _; exact BK278.out⟩
                                  have n6_ : Aside0 (((((w83.setCell ⟨gb283, 0, none⟩ (.int .i64 ((rd_T35 t273 (ji68)).f0))).setCell ⟨gb283, 1, none⟩ (.int .i64 ((rd_T35 t273 (ji68)).f1))).setCell ⟨gb283, 2, none⟩ (.int .i64 ((rd_T35 t273 (ji68)).f2))).setCell ⟨gb283, 3, none⟩ (.string ((rd_T35 t273 (ji68)).f3))).heap[gb283]? = some (.cells #[.int .i64 ((rd_T35 t273 (ji68)).f0), .int .i64 ((rd_T35 t273 (ji68)).f1), .int .i64 ((rd_T35 t273 (ji68)).f2), .string ((rd_T35 t273 (ji68)).f3)] 35 (0, 0))) := ⟨by refine blk_put (cs := #[.int .i64 ((rd_T35 t273 (ji68)).f0), .int .i64 ((rd_T35 t273 (ji68)).f1), .int .i64 ((rd_T35 t273 (ji68)).f2), .string (⟨#[]⟩ : ByteArray)]) ?_ 3 _ rfl; refine blk_put (cs := #[.int .i64 ((rd_T35 t273 (ji68)).f0), .int .i64 ((rd_T35 t273 (ji68)).f1), .int .i64 0, .string (⟨#[]⟩ : ByteArray)]) ?_ 2 _ rfl; refine blk_put (cs := #[.int .i64 ((rd_T35 t273 (ji68)).f0), .int .i64 0, .int .i64 0, .string (⟨#[]⟩ : ByteArray)]) ?_ 1 _ rfl; refine blk_put (cs := #[.int .i64 0, .int .i64 0, .int .i64 0, .string (⟨#[]⟩ : ByteArray)]) ?_ 0 _ rfl; exact BK283.out⟩
                                  have n7_ : Aside0 (Below w.heap.size w ((((w83.setCell ⟨gb283, 0, none⟩ (.int .i64 ((rd_T35 t273 (ji68)).f0))).setCell ⟨gb283, 1, none⟩ (.int .i64 ((rd_T35 t273 (ji68)).f1))).setCell ⟨gb283, 2, none⟩ (.int .i64 ((rd_T35 t273 (ji68)).f2))).setCell ⟨gb283, 3, none⟩ (.string ((rd_T35 t273 (ji68)).f3)))) := ⟨by repeat (with_reducible first | exact HB.out | apply pw_below_drewN | apply below_drew1 | refine below_set ?_ GE259.out | refine below_set ?_ GE270.out | refine below_set ?_ GE271.out | refine below_set ?_ GE278.out | refine below_set ?_ GE283.out)⟩
                                  (try clear HO_271001)
                                  (try clear HO_279001)
                                  (try clear BK259)
                                  (try clear BK270)
                                  (try clear BK271)
                                  (try clear BK278)
                                  (try clear BK283)
                                  (try clear HB)
                                  generalize ((((w83.setCell ⟨gb283, 0, none⟩ (.int .i64 ((rd_T35 t273 (ji68)).f0))).setCell ⟨gb283, 1, none⟩ (.int .i64 ((rd_T35 t273 (ji68)).f1))).setCell ⟨gb283, 2, none⟩ (.int .i64 ((rd_T35 t273 (ji68)).f2))).setCell ⟨gb283, 3, none⟩ (.string ((rd_T35 t273 (ji68)).f3))) = w89 at n0_ n1_ n2_ n3_ n4_ n5_ n6_ n7_ ⊢
                                  have HO_271001 := n0_
                                  have HO_279001 := n1_
                                  have BK259 := n2_
                                  have BK270 := n3_
                                  have BK271 := n4_
                                  have BK278 := n5_
                                  have BK283 := n6_
                                  have HB := n7_
                                  clear n0_ n1_ n2_ n3_ n4_ n5_ n6_ n7_
                                  have n0_ := Aside0.mk (Kd.R_drew HO_271001.out)
                                  have n1_ := Aside0.mk (Kd.R_drew HO_279001.out)
                                  have n2_ := Aside0.mk (blk_drew BK259.out)
                                  have n3_ := Aside0.mk (blk_drew BK270.out)
                                  have n4_ := Aside0.mk (blk_drew BK271.out)
                                  have n5_ := Aside0.mk (blk_drew BK278.out)
                                  have n6_ := Aside0.mk (blk_drew BK283.out)
                                  have n7_ := Aside0.mk (below_drew1 HB.out)
                                  clear HO_271001
                                  clear HO_279001
                                  clear BK259
                                  clear BK270
                                  clear BK271
                                  clear BK278
                                  clear BK283
                                  clear HB
                                  have HO_271001 := n0_
                                  have HO_279001 := n1_
                                  have BK259 := n2_
                                  have BK270 := n3_
                                  have BK271 := n4_
                                  have BK278 := n5_
                                  have BK283 := n6_
                                  have HB := n7_
                                  clear n0_ n1_ n2_ n3_ n4_ n5_ n6_ n7_
                                  refine start_ (n := 37) (S := fun w' => w'.cell? ⟨gb283, 0, none⟩ = some (.int .i64 ((rd_T35 t273 (ji68)).f0)) ∧ w'.cell? ⟨gb283, 1, none⟩ = some (.int .i64 ((rd_T35 t273 (ji68)).f1)) ∧ w'.cell? ⟨gb283, 2, none⟩ = some (.int .i64 ((rd_T35 t273 (ji68)).f2)) ∧ w'.cell? ⟨gb283, 3, none⟩ = some (.string ((rd_T35 t273 (ji68)).f3)) ∧ w'.cell? ⟨gb271, 0, none⟩ = some (.int .i64 t265) ∧ w'.cell? ⟨gb271, 1, none⟩ = some (.int .i64 t266) ∧ w'.cell? ⟨gb271, 2, none⟩ = some (.int .i64 t267) ∧ w'.cell? ⟨gb271, 3, none⟩ = some (.string t268) ∧ w'.cell? ⟨gb278, 0, none⟩ = some (.int .i64 t272) ∧ w'.cell? ⟨gb278, 1, none⟩ = some (.slice (some ad282) t273.length co31) ∧ w'.cell? ⟨gb259, 0, none⟩ = some (.int .i64 a0_0) ∧ w'.cell? ⟨gb259, 1, none⟩ = some (.slice A0_1 l0_1.length c0_1)) (ds := []) #[false, false, false, false, false, false, false, false, false, false, false, false, false, false, false, false, false, false, false, false, false, false, false, false, false, false, false, false, false, false, false, false, false, false, false, false, false] (by kernel_rfl) rfl rfl ⟨(blk_cell BK283.out 0).trans rfl, (blk_cell BK283.out 1).trans rfl, (blk_cell BK283.out 2).trans rfl, (blk_cell BK283.out 3).trans rfl, (blk_cell BK271.out 0).trans rfl, (blk_cell BK271.out 1).trans rfl, (blk_cell BK271.out 2).trans rfl, (blk_cell BK271.out 3).trans rfl, (blk_cell BK278.out 0).trans rfl, (blk_cell BK278.out 1).trans rfl, (blk_cell BK259.out 0).trans rfl, (blk_cell BK259.out 1).trans rfl⟩ (fun hHeld => ?_); refine with_tabW watchmanlaw21_PostAgain.tab13 watchmanlaw21_PostAgain.bits13 (fun HT_ HW_ => ?_)
                                  generalize w89.drew = w90 at HO_271001 HO_279001 BK259 BK270 BK271 BK278 BK283 HB hHeld ⊢
                                  refine one_ (i := 0) (N := some 91) (dn_ 1 37) rfl rfl (one_of HT_.out (by kernel_rfl)) (by decide) (fun K hK => ?_)
                                  refine goes_ Try.func24 (by kernel_rfl) rfl #[] (by rfl) rfl rfl (by (try simp only [List.map_toArray, List.map_cons, List.map_nil]); first | done | rfl | (simp only [List.length_drop, List.length_take]; rfl)) ?_
                                  with_reducible refine (watchmanlaw21_posted.calls kj52  true _ A71.out).mono ?_
                                  rintro e w91 ⟨rfl, hb⟩
                                  refine ⟨_, rfl, ?_⟩
                                  have n0_ := Aside0.mk (Kd.R_below (HO_271001.out) hb)
                                  have n1_ := Aside0.mk (Kd.R_below (HO_279001.out) hb)
                                  have n2_ := Aside0.mk (blk_below BK259.out hb)
                                  have n3_ := Aside0.mk (blk_below BK270.out hb)
                                  have n4_ := Aside0.mk (blk_below BK271.out hb)
                                  have n5_ := Aside0.mk (blk_below BK278.out hb)
                                  have n6_ := Aside0.mk (blk_below BK283.out hb)
                                  have n7_ := Aside0.mk (below_step (by repeat (with_reducible first | exact HB.out | apply pw_below_drewN | apply below_drew1 | refine below_set ?_ GE259.out | refine below_set ?_ GE270.out | refine below_set ?_ GE271.out | refine below_set ?_ GE278.out | refine below_set ?_ GE283.out)) hb)
                                  clear HO_271001
                                  clear HO_279001
                                  clear BK259
                                  clear BK270
                                  clear BK271
                                  clear BK278
                                  clear BK283
                                  clear HB
                                  have HO_271001 := n0_
                                  have HO_279001 := n1_
                                  have BK259 := n2_
                                  have BK270 := n3_
                                  have BK271 := n4_
                                  have BK278 := n5_
                                  have BK283 := n6_
                                  have HB := n7_
                                  clear n0_ n1_ n2_ n3_ n4_ n5_ n6_ n7_
                                  (try clear hb)
                                  (try clear hb2)
                                  (try clear hk)
                                  (try clear hi)
                                  refine hK.out _ _ ⟨(blk_cell BK283.out 0).trans rfl, (blk_cell BK283.out 1).trans rfl, (blk_cell BK283.out 2).trans rfl, (blk_cell BK283.out 3).trans rfl, (blk_cell BK271.out 0).trans rfl, (blk_cell BK271.out 1).trans rfl, (blk_cell BK271.out 2).trans rfl, (blk_cell BK271.out 3).trans rfl, (blk_cell BK278.out 0).trans rfl, (blk_cell BK278.out 1).trans rfl, (blk_cell BK259.out 0).trans rfl, (blk_cell BK259.out 1).trans rfl⟩ (fun hHeld => ?_)
                                  clear hK K
                                  refine norm_ (a' := ?_) ?_ ?_
                                  rotate_left
                                  · show Act.put _ (some 91) _ = _
                                    simp only [Act.put, List.setIfInBounds_toArray, List.set_cons_zero, List.set_cons_succ, i64_w, i32_w]
                                    rfl
                                  refine pure_ (i := 1) (N := some 92) (v := ?_) (a' := ?_) (dn_ 2 37) rfl rfl (any_of HT_.out (by kernel_rfl)) (fun _ _ _ h => h) (Or.inl ⟨by rfl, ?_⟩) ?_ ?_
                                  rotate_left
                                  · intro w'
                                    go_simp
                                    with_reducible rfl
                                  rotate_left; (simp only [Act.put, List.setIfInBounds_toArray, List.set_cons_zero, List.set_cons_succ, i64_w, i32_w]; rfl)
                                  refine pure_ (i := 2) (N := some 93) (v := ?_) (a' := ?_) (dn_ 3 37) rfl rfl (any_of HT_.out (by kernel_rfl)) (fun _ _ _ h => h) (Or.inl ⟨by rfl, ?_⟩) ?_ ?_
                                  rotate_left
                                  · intro w'
                                    go_simp
                                    with_reducible rfl
                                  rotate_left; (simp only [Act.put, List.setIfInBounds_toArray, List.set_cons_zero, List.set_cons_succ, i64_w, i32_w]; rfl)
                                  refine pure_ (i := 4) (N := some 95) (v := ?_) (a' := ?_) #[true, true, true, false, true, false, false, false, false, false, false, false, false, false, false, false, false, false, false, false, false, false, false, false, false, false, false, false, false, false, false, false, false, false, false, false, false] rfl rfl (any_of HT_.out (by kernel_rfl)) (fun _ _ _ h => h) (Or.inl ⟨by rfl, ?_⟩) ?_ ?_
                                  rotate_left
                                  · intro w'
                                    go_simp
                                    with_reducible rfl
                                  rotate_left; (simp only [Act.put, List.setIfInBounds_toArray, List.set_cons_zero, List.set_cons_succ, i64_w, i32_w]; rfl)
                                  refine take_ (i := 3) (N := some 94) (v := ?_) (a' := ?_) (dn_ 5 37) rfl rfl (take_ofW HT_.out HW_.out (by kernel_rfl)) (fun _ _ _ h => h) (Or.inl ⟨by rfl, ?_⟩) hHeld ?_ ?_
                                  rotate_left
                                  · rintro w' ⟨s0, s1, s2, s3, s4, s5, s6, s7, s8, s9, s10, s11⟩
                                    go_simp
                                    with_reducible rfl
                                  rotate_left; (simp only [Act.put, List.setIfInBounds_toArray, List.set_cons_zero, List.set_cons_succ, i64_w, i32_w]; rfl)
                                  refine take_ (i := 5) (N := some 96) (v := ?_) (a' := ?_) (dn_ 6 37) rfl rfl (take_ofW HT_.out HW_.out (by kernel_rfl)) (fun _ _ _ h => h) (Or.inl ⟨by rfl, ?_⟩) hHeld ?_ ?_
                                  rotate_left
                                  · rintro w' ⟨s0, s1, s2, s3, s4, s5, s6, s7, s8, s9, s10, s11⟩
                                    go_simp
                                    with_reducible rfl
                                  rotate_left; (simp only [Act.put, List.setIfInBounds_toArray, List.set_cons_zero, List.set_cons_succ, i64_w, i32_w]; rfl)
                                  refine pure_ (i := 6) (N := some 97) (v := ?_) (a' := ?_) (dn_ 7 37) rfl rfl (any_of HT_.out (by kernel_rfl)) (fun _ _ _ h => h) (Or.inl ⟨by rfl, ?_⟩) ?_ ?_
                                  rotate_left
                                  · intro w'
                                    go_simp
                                    with_reducible rfl
                                  rotate_left; (simp only [Act.put, List.setIfInBounds_toArray, List.set_cons_zero, List.set_cons_succ, i64_w, i32_w]; rfl)
                                  refine pure_ (i := 7) (N := some 98) (v := ?_) (a' := ?_) (dn_ 8 37) rfl rfl (any_of HT_.out (by kernel_rfl)) (fun _ _ _ h => h) (Or.inl ⟨by rfl, ?_⟩) ?_ ?_
                                  rotate_left
                                  · intro w'
                                    go_simp
                                    with_reducible rfl
                                  rotate_left; (simp only [Act.put, List.setIfInBounds_toArray, List.set_cons_zero, List.set_cons_succ, i64_w, i32_w]; rfl)
                                  refine pure_ (i := 8) (N := some 99) (v := ?_) (a' := ?_) (dn_ 9 37) rfl rfl (any_of HT_.out (by kernel_rfl)) (fun _ _ _ h => h) (Or.inl ⟨by rfl, ?_⟩) ?_ ?_
                                  rotate_left
                                  · intro w'
                                    go_simp
                                    with_reducible rfl
                                  rotate_left; (simp only [Act.put, List.setIfInBounds_toArray, List.set_cons_zero, List.set_cons_succ, i64_w, i32_w]; rfl)
                                  refine pure_ (i := 9) (N := some 100) (v := ?_) (a' := ?_) (dn_ 10 37) rfl rfl (any_of HT_.out (by kernel_rfl)) (fun _ _ _ h => h) (Or.inl ⟨by rfl, ?_⟩) ?_ ?_
                                  rotate_left
                                  · intro w'
                                    go_simp
                                    with_reducible rfl
                                  rotate_left; (simp only [Act.put, List.setIfInBounds_toArray, List.set_cons_zero, List.set_cons_succ, i64_w, i32_w]; rfl)
                                  refine pure_ (i := 11) (N := some 102) (v := ?_) (a' := ?_) #[true, true, true, true, true, true, true, true, true, true, false, true, false, false, false, false, false, false, false, false, false, false, false, false, false, false, false, false, false, false, false, false, false, false, false, false, false] rfl rfl (any_of HT_.out (by kernel_rfl)) (fun _ _ _ h => h) (Or.inl ⟨by rfl, ?_⟩) ?_ ?_
                                  rotate_left
                                  · intro w'
                                    go_simp
                                    with_reducible rfl
                                  rotate_left; (simp only [Act.put, List.setIfInBounds_toArray, List.set_cons_zero, List.set_cons_succ, i64_w, i32_w]; rfl)
                                  refine take_ (i := 10) (N := some 101) (v := ?_) (a' := ?_) (dn_ 12 37) rfl rfl (take_ofW HT_.out HW_.out (by kernel_rfl)) (fun _ _ _ h => h) (Or.inl ⟨by rfl, ?_⟩) hHeld ?_ ?_
                                  rotate_left
                                  · rintro w' ⟨s0, s1, s2, s3, s4, s5, s6, s7, s8, s9, s10, s11⟩
                                    go_simp
                                    with_reducible rfl
                                  rotate_left; (simp only [Act.put, List.setIfInBounds_toArray, List.set_cons_zero, List.set_cons_succ, i64_w, i32_w]; rfl)
                                  refine take_ (i := 12) (N := some 103) (v := ?_) (a' := ?_) (dn_ 13 37) rfl rfl (take_ofW HT_.out HW_.out (by kernel_rfl)) (fun _ _ _ h => h) (Or.inl ⟨by rfl, ?_⟩) hHeld ?_ ?_
                                  rotate_left
                                  · rintro w' ⟨s0, s1, s2, s3, s4, s5, s6, s7, s8, s9, s10, s11⟩
                                    go_simp
                                    with_reducible rfl
                                  rotate_left; (simp only [Act.put, List.setIfInBounds_toArray, List.set_cons_zero, List.set_cons_succ, i64_w, i32_w]; rfl)
                                  refine pure_ (i := 13) (N := some 104) (v := ?_) (a' := ?_) (dn_ 14 37) rfl rfl (any_of HT_.out (by kernel_rfl)) (fun _ _ _ h => h) (Or.inl ⟨by rfl, ?_⟩) ?_ ?_
                                  rotate_left
                                  · intro w'
                                    go_simp
                                    with_reducible rfl
                                  rotate_left; (simp only [Act.put, List.setIfInBounds_toArray, List.set_cons_zero, List.set_cons_succ, i64_w, i32_w]; rfl)
                                  refine pure_ (i := 14) (N := some 105) (v := ?_) (a' := ?_) (dn_ 15 37) rfl rfl (any_of HT_.out (by kernel_rfl)) (fun _ _ _ h => h) (Or.inl ⟨by rfl, ?_⟩) ?_ ?_
                                  rotate_left
                                  · intro w'
                                    go_simp
                                    with_reducible rfl
                                  rotate_left; (simp only [Act.put, List.setIfInBounds_toArray, List.set_cons_zero, List.set_cons_succ, i64_w, i32_w]; rfl)
                                  refine pure_ (i := 15) (N := some 106) (v := ?_) (a' := ?_) (dn_ 16 37) rfl rfl (any_of HT_.out (by kernel_rfl)) (fun _ _ _ h => h) (Or.inl ⟨by rfl, ?_⟩) ?_ ?_
                                  rotate_left
                                  · intro w'
                                    go_simp
                                    with_reducible rfl
                                  rotate_left; (simp only [Act.put, List.setIfInBounds_toArray, List.set_cons_zero, List.set_cons_succ, i64_w, i32_w]; rfl)
                                  refine pure_ (i := 16) (N := some 107) (v := ?_) (a' := ?_) (dn_ 17 37) rfl rfl (any_of HT_.out (by kernel_rfl)) (fun _ _ _ h => h) (Or.inl ⟨by rfl, ?_⟩) ?_ ?_
                                  rotate_left
                                  · intro w'
                                    go_simp
                                    with_reducible rfl
                                  rotate_left; (simp only [Act.put, List.setIfInBounds_toArray, List.set_cons_zero, List.set_cons_succ, i64_w, i32_w]; rfl)
                                  refine pure_ (i := 18) (N := some 109) (v := ?_) (a' := ?_) #[true, true, true, true, true, true, true, true, true, true, true, true, true, true, true, true, true, false, true, false, false, false, false, false, false, false, false, false, false, false, false, false, false, false, false, false, false] rfl rfl (any_of HT_.out (by kernel_rfl)) (fun _ _ _ h => h) (Or.inl ⟨by rfl, ?_⟩) ?_ ?_
                                  rotate_left
                                  · intro w'
                                    go_simp
                                    with_reducible rfl
                                  rotate_left; (simp only [Act.put, List.setIfInBounds_toArray, List.set_cons_zero, List.set_cons_succ, i64_w, i32_w]; rfl)
                                  refine take_ (i := 17) (N := some 108) (v := ?_) (a' := ?_) (dn_ 19 37) rfl rfl (take_ofW HT_.out HW_.out (by kernel_rfl)) (fun _ _ _ h => h) (Or.inl ⟨by rfl, ?_⟩) hHeld ?_ ?_
                                  rotate_left
                                  · rintro w' ⟨s0, s1, s2, s3, s4, s5, s6, s7, s8, s9, s10, s11⟩
                                    go_simp
                                    with_reducible rfl
                                  rotate_left; (simp only [Act.put, List.setIfInBounds_toArray, List.set_cons_zero, List.set_cons_succ, i64_w, i32_w]; rfl)
                                  refine take_ (i := 19) (N := some 110) (v := ?_) (a' := ?_) (dn_ 20 37) rfl rfl (take_ofW HT_.out HW_.out (by kernel_rfl)) (fun _ _ _ h => h) (Or.inl ⟨by rfl, ?_⟩) hHeld ?_ ?_
                                  rotate_left
                                  · rintro w' ⟨s0, s1, s2, s3, s4, s5, s6, s7, s8, s9, s10, s11⟩
                                    go_simp
                                    with_reducible rfl
                                  rotate_left; (simp only [Act.put, List.setIfInBounds_toArray, List.set_cons_zero, List.set_cons_succ, i64_w, i32_w]; rfl)
                                  refine pure_ (i := 20) (N := some 111) (v := ?_) (a' := ?_) (dn_ 21 37) rfl rfl (any_of HT_.out (by kernel_rfl)) (fun _ _ _ h => h) (Or.inl ⟨by rfl, ?_⟩) ?_ ?_
                                  rotate_left
                                  · intro w'
                                    go_simp
                                    with_reducible rfl
                                  rotate_left; (simp only [Act.put, List.setIfInBounds_toArray, List.set_cons_zero, List.set_cons_succ, i64_w, i32_w]; rfl)
                                  refine pure_ (i := 21) (N := some 112) (v := ?_) (a' := ?_) (dn_ 22 37) rfl rfl (any_of HT_.out (by kernel_rfl)) (fun _ _ _ h => h) (Or.inl ⟨by rfl, ?_⟩) ?_ ?_
                                  rotate_left
                                  · intro w'
                                    go_simp
                                    with_reducible rfl
                                  rotate_left; (simp only [Act.put, List.setIfInBounds_toArray, List.set_cons_zero, List.set_cons_succ, i64_w, i32_w]; rfl)
                                  refine pure_ (i := 22) (N := some 113) (v := ?_) (a' := ?_) (dn_ 23 37) rfl rfl (any_of HT_.out (by kernel_rfl)) (fun _ _ _ h => h) (Or.inl ⟨by rfl, ?_⟩) ?_ ?_
                                  rotate_left
                                  · intro w'
                                    go_simp
                                    with_reducible rfl
                                  rotate_left; (simp only [Act.put, List.setIfInBounds_toArray, List.set_cons_zero, List.set_cons_succ, i64_w, i32_w]; rfl)
                                  refine pure_ (i := 24) (N := some 115) (v := ?_) (a' := ?_) #[true, true, true, true, true, true, true, true, true, true, true, true, true, true, true, true, true, true, true, true, true, true, true, false, true, false, false, false, false, false, false, false, false, false, false, false, false] rfl rfl (any_of HT_.out (by kernel_rfl)) (fun _ _ _ h => h) (Or.inl ⟨by rfl, ?_⟩) ?_ ?_
                                  rotate_left
                                  · intro w'
                                    go_simp
                                    with_reducible rfl
                                  rotate_left; (simp only [Act.put, List.setIfInBounds_toArray, List.set_cons_zero, List.set_cons_succ, i64_w, i32_w]; rfl)
                                  refine pure_ (i := 29) (N := some 120) (v := ?_) (a' := ?_) #[true, true, true, true, true, true, true, true, true, true, true, true, true, true, true, true, true, true, true, true, true, true, true, false, true, false, false, false, false, true, false, false, false, false, false, false, false] rfl rfl (any_of HT_.out (by kernel_rfl)) (fun _ _ _ h => h) (Or.inl ⟨by rfl, ?_⟩) ?_ ?_
                                  rotate_left
                                  · intro w'
                                    go_simp
                                    with_reducible rfl
                                  rotate_left; (simp only [Act.put, List.setIfInBounds_toArray, List.set_cons_zero, List.set_cons_succ, i64_w, i32_w]; rfl)
                                  refine take_ (i := 23) (N := some 114) (v := ?_) (a' := ?_) #[true, true, true, true, true, true, true, true, true, true, true, true, true, true, true, true, true, true, true, true, true, true, true, true, true, false, false, false, false, true, false, false, false, false, false, false, false] rfl rfl (take_ofW HT_.out HW_.out (by kernel_rfl)) (fun _ _ _ h => h) (Or.inl ⟨by rfl, ?_⟩) hHeld ?_ ?_
                                  rotate_left
                                  · rintro w' ⟨s0, s1, s2, s3, s4, s5, s6, s7, s8, s9, s10, s11⟩
                                    go_simp
                                    with_reducible rfl
                                  rotate_left; (simp only [Act.put, List.setIfInBounds_toArray, List.set_cons_zero, List.set_cons_succ, i64_w, i32_w]; rfl)
                                  refine take_ (i := 25) (N := some 116) (v := ?_) (a' := ?_) #[true, true, true, true, true, true, true, true, true, true, true, true, true, true, true, true, true, true, true, true, true, true, true, true, true, true, false, false, false, true, false, false, false, false, false, false, false] rfl rfl (take_ofW HT_.out HW_.out (by kernel_rfl)) (fun _ _ _ h => h) (Or.inl ⟨by rfl, ?_⟩) hHeld ?_ ?_
                                  rotate_left
                                  · rintro w' ⟨s0, s1, s2, s3, s4, s5, s6, s7, s8, s9, s10, s11⟩
                                    go_simp
                                    with_reducible rfl
                                  rotate_left; (simp only [Act.put, List.setIfInBounds_toArray, List.set_cons_zero, List.set_cons_succ, i64_w, i32_w]; rfl)
                                  refine take_ (i := 28) (N := some 119) (v := ?_) (a' := ?_) #[true, true, true, true, true, true, true, true, true, true, true, true, true, true, true, true, true, true, true, true, true, true, true, true, true, true, false, false, true, true, false, false, false, false, false, false, false] rfl rfl (take_ofW HT_.out HW_.out (by kernel_rfl)) (fun _ _ _ h => h) (Or.inl ⟨by rfl, ?_⟩) hHeld ?_ ?_
                                  rotate_left
                                  · rintro w' ⟨s0, s1, s2, s3, s4, s5, s6, s7, s8, s9, s10, s11⟩
                                    go_simp
                                    with_reducible rfl
                                  rotate_left; (simp only [Act.put, List.setIfInBounds_toArray, List.set_cons_zero, List.set_cons_succ, i64_w, i32_w]; rfl)
                                  refine take_ (i := 30) (N := some 121) (v := ?_) (a' := ?_) #[true, true, true, true, true, true, true, true, true, true, true, true, true, true, true, true, true, true, true, true, true, true, true, true, true, true, false, false, true, true, true, false, false, false, false, false, false] rfl rfl (take_ofW HT_.out HW_.out (by kernel_rfl)) (fun _ _ _ h => h) (Or.inl ⟨by rfl, ?_⟩) hHeld ?_ ?_
                                  rotate_left
                                  · rintro w' ⟨s0, s1, s2, s3, s4, s5, s6, s7, s8, s9, s10, s11⟩
                                    go_simp
                                    with_reducible rfl
                                  rotate_left; (simp only [Act.put, List.setIfInBounds_toArray, List.set_cons_zero, List.set_cons_succ, i64_w, i32_w]; rfl)
                                  refine one_ (i := 26) (N := some 117) #[true, true, true, true, true, true, true, true, true, true, true, true, true, true, true, true, true, true, true, true, true, true, true, true, true, true, true, false, true, true, true, false, false, false, false, false, false] rfl rfl (one_of HT_.out (by kernel_rfl)) (by decide) (fun K hK => ?_)
                                  refine goes_ Try.func19 (by kernel_rfl) rfl #[.agg #[.int .i64 t272, .slice (some ad282) t273.length co31], .int .i64 t267] (by rfl) rfl rfl (by (try simp only [List.map_toArray, List.map_cons, List.map_nil]); first | done | rfl | (simp only [List.length_drop, List.length_take]; rfl)) ?_
                                  with_reducible refine (post_To.calls t272 _ _ t273 t267 t285 _ ?side1 ?side2 A76.out).mono ?_
                                  (case side1 => repeat (first | exact (Kd.R_reads' HO_279001.out).2.2 | (with_reducible refine Kd.C_alloc ?_ _) | (with_reducible refine Kd.C_drewN ?_ _) | (with_reducible refine Kd.C_drew ?_)))
                                  (case side2 => exact (Kd.R_reads' HO_279001.out).2.1)
                                  rintro e w92 ⟨v286, rfl, ho0, hb⟩
                                  refine ⟨_, rfl, ?_⟩
                                  have n0_ := Aside0.mk (Kd.R_elder' (HO_271001.out) (Kd.R_base ho0) hb)
                                  have n1_ := Aside0.mk (Kd.R_elder' (HO_279001.out) (Kd.R_base ho0) hb)
                                  have n2_ := Aside0.mk (Kd.R_lower (Kd.R_newB (Kd.R_newB (Kd.R_new' (Kd.R_new' ho0 (Kd.R_lt (HO_271001.out))) (Kd.R_lt (HO_279001.out))) (g := gb271) (o := .cells #[.int .i64 t265, .int .i64 t266, .int .i64 t267, .string t268] 35 (0, 0)) BK271.out) (g := gb283) (o := .cells #[.int .i64 ((rd_T35 t273 (ji68)).f0), .int .i64 ((rd_T35 t273 (ji68)).f1), .int .i64 ((rd_T35 t273 (ji68)).f2), .string ((rd_T35 t273 (ji68)).f3)] 35 (0, 0)) BK283.out) (below_size (by repeat (with_reducible first | exact HB.out | apply pw_below_drewN | apply below_drew1 | refine below_set ?_ GE259.out | refine below_set ?_ GE270.out | refine below_set ?_ GE271.out | refine below_set ?_ GE278.out | refine below_set ?_ GE283.out))))
                                  have n3_ := Aside0.mk (blk_below BK259.out hb)
                                  have n4_ := Aside0.mk (blk_below BK270.out hb)
                                  have n5_ := Aside0.mk (blk_below BK271.out hb)
                                  have n6_ := Aside0.mk (blk_below BK278.out hb)
                                  have n7_ := Aside0.mk (blk_below BK283.out hb)
                                  have n8_ := Aside0.mk (below_step (by repeat (with_reducible first | exact HB.out | apply pw_below_drewN | apply below_drew1 | refine below_set ?_ GE259.out | refine below_set ?_ GE270.out | refine below_set ?_ GE271.out | refine below_set ?_ GE278.out | refine below_set ?_ GE283.out)) hb)
                                  clear HO_271001
                                  clear HO_279001
                                  clear BK259
                                  clear BK270
                                  clear BK271
                                  clear BK278
                                  clear BK283
                                  clear HB
                                  have HO_271001 := n0_
                                  have HO_279001 := n1_
                                  have HO287 := n2_
                                  have BK259 := n3_
                                  have BK270 := n4_
                                  have BK271 := n5_
                                  have BK278 := n6_
                                  have BK283 := n7_
                                  have HB := n8_
                                  clear n0_ n1_ n2_ n3_ n4_ n5_ n6_ n7_ n8_
                                  (try clear hb)
                                  (try clear hb2)
                                  (try clear hk)
                                  (try clear hi)
                                  (try clear ho0)
                                  obtain ⟨Ao93, co93, eo93⟩ := Kd.R_slice HO287.out
                                  (first | subst eo93 | (injection eo93 with f1_ f2_ f3_; have f4_ := f1_.symm; have f5_ := f3_.symm; clear f1_ f2_ f3_; subst f4_; subst f5_))
                                  refine hK.out _ _ ⟨(blk_cell BK283.out 0).trans rfl, (blk_cell BK283.out 1).trans rfl, (blk_cell BK283.out 2).trans rfl, (blk_cell BK283.out 3).trans rfl, (blk_cell BK271.out 0).trans rfl, (blk_cell BK271.out 1).trans rfl, (blk_cell BK271.out 2).trans rfl, (blk_cell BK271.out 3).trans rfl, (blk_cell BK278.out 0).trans rfl, (blk_cell BK278.out 1).trans rfl, (blk_cell BK259.out 0).trans rfl, (blk_cell BK259.out 1).trans rfl⟩ (fun hHeld => ?_)
                                  clear hK K
                                  refine norm_ (a' := ?_) ?_ ?_
                                  rotate_left
                                  · show Act.put _ (some 117) _ = _
                                    simp only [Act.put, List.setIfInBounds_toArray, List.set_cons_zero, List.set_cons_succ, i64_w, i32_w]
                                    rfl
                                  refine pure_ (i := 27) (N := some 118) (v := ?_) (a' := ?_) (dn_ 31 37) rfl rfl (any_of HT_.out (by kernel_rfl)) (fun _ _ _ h => h) (Or.inl ⟨by rfl, ?_⟩) ?_ ?_
                                  rotate_left
                                  · intro w'
                                    go_simp
                                    with_reducible rfl
                                  rotate_left; (simp only [Act.put, List.setIfInBounds_toArray, List.set_cons_zero, List.set_cons_succ, i64_w, i32_w]; rfl)
                                  refine one_ (i := 31) (N := some 122) (dn_ 32 37) rfl rfl (one_of HT_.out (by kernel_rfl)) (by decide) (fun K hK => ?_)
                                  refine goes_ Try.func19 (by kernel_rfl) rfl #[.agg #[.int .i64 a0_0, .slice A0_1 l0_1.length c0_1], .int .i64 t267] (by rfl) rfl rfl (by (try simp only [List.map_toArray, List.map_cons, List.map_nil]); first | done | rfl | (simp only [List.length_drop, List.length_take]; rfl)) ?_
                                  with_reducible refine (post_To.calls a0_0 _ _ l0_1 t267 t288 _ ?side1 ?side2 A77.out).mono ?_
                                  (case side1 => exact (Kd.C_below HR0_1.out HB.out))
                                  (case side2 => exact HC0_1.out)
                                  rintro e w94 ⟨v289, rfl, ho0, hb⟩
                                  refine ⟨_, rfl, ?_⟩
                                  have n0_ := Aside0.mk (Kd.R_elder' (HO_271001.out) (Kd.R_base ho0) hb)
                                  have n1_ := Aside0.mk (Kd.R_elder' (HO_279001.out) (Kd.R_base ho0) hb)
                                  have n2_ := Aside0.mk (Kd.R_elder' (HO287.out) (Kd.R_base ho0) hb)
                                  have n3_ := Aside0.mk (Kd.R_lower (Kd.R_newB (Kd.R_newB (Kd.R_new' (Kd.R_new' (Kd.R_new' ho0 (Kd.R_lt (HO_271001.out))) (Kd.R_lt (HO_279001.out))) (Kd.R_lt (HO287.out))) (g := gb271) (o := .cells #[.int .i64 t265, .int .i64 t266, .int .i64 t267, .string t268] 35 (0, 0)) BK271.out) (g := gb283) (o := .cells #[.int .i64 ((rd_T35 t273 (ji68)).f0), .int .i64 ((rd_T35 t273 (ji68)).f1), .int .i64 ((rd_T35 t273 (ji68)).f2), .string ((rd_T35 t273 (ji68)).f3)] 35 (0, 0)) BK283.out) (below_size (by repeat (with_reducible first | exact HB.out | apply pw_below_drewN | apply below_drew1 | refine below_set ?_ GE259.out | refine below_set ?_ GE270.out | refine below_set ?_ GE271.out | refine below_set ?_ GE278.out | refine below_set ?_ GE283.out))))
                                  have n4_ := Aside0.mk (blk_below BK259.out hb)
                                  have n5_ := Aside0.mk (blk_below BK270.out hb)
                                  have n6_ := Aside0.mk (blk_below BK271.out hb)
                                  have n7_ := Aside0.mk (blk_below BK278.out hb)
                                  have n8_ := Aside0.mk (blk_below BK283.out hb)
                                  have n9_ := Aside0.mk (below_step (by repeat (with_reducible first | exact HB.out | apply pw_below_drewN | apply below_drew1 | refine below_set ?_ GE259.out | refine below_set ?_ GE270.out | refine below_set ?_ GE271.out | refine below_set ?_ GE278.out | refine below_set ?_ GE283.out)) hb)
                                  clear HO_271001
                                  clear HO_279001
                                  clear HO287
                                  clear BK259
                                  clear BK270
                                  clear BK271
                                  clear BK278
                                  clear BK283
                                  clear HB
                                  have HO_271001 := n0_
                                  have HO_279001 := n1_
                                  have HO287 := n2_
                                  have HO290 := n3_
                                  have BK259 := n4_
                                  have BK270 := n5_
                                  have BK271 := n6_
                                  have BK278 := n7_
                                  have BK283 := n8_
                                  have HB := n9_
                                  clear n0_ n1_ n2_ n3_ n4_ n5_ n6_ n7_ n8_ n9_
                                  (try clear hb)
                                  (try clear hb2)
                                  (try clear hk)
                                  (try clear hi)
                                  (try clear ho0)
                                  obtain ⟨Ao95, co95, eo95⟩ := Kd.R_slice HO290.out
                                  (first | subst eo95 | (injection eo95 with f1_ f2_ f3_; have f4_ := f1_.symm; have f5_ := f3_.symm; clear f1_ f2_ f3_; subst f4_; subst f5_))
                                  refine hK.out _ _ ⟨(blk_cell BK283.out 0).trans rfl, (blk_cell BK283.out 1).trans rfl, (blk_cell BK283.out 2).trans rfl, (blk_cell BK283.out 3).trans rfl, (blk_cell BK271.out 0).trans rfl, (blk_cell BK271.out 1).trans rfl, (blk_cell BK271.out 2).trans rfl, (blk_cell BK271.out 3).trans rfl, (blk_cell BK278.out 0).trans rfl, (blk_cell BK278.out 1).trans rfl, (blk_cell BK259.out 0).trans rfl, (blk_cell BK259.out 1).trans rfl⟩ (fun hHeld => ?_)
                                  clear hK K
                                  refine norm_ (a' := ?_) ?_ ?_
                                  rotate_left
                                  · show Act.put _ (some 122) _ = _
                                    simp only [Act.put, List.setIfInBounds_toArray, List.set_cons_zero, List.set_cons_succ, i64_w, i32_w]
                                    rfl
                                  refine pure_ (i := 32) (N := some 123) (v := ?_) (a' := ?_) (dn_ 33 37) rfl rfl (any_of HT_.out (by kernel_rfl)) (fun _ _ _ h => h) (Or.inl ⟨by rfl, ?_⟩) ?_ ?_
                                  rotate_left
                                  · intro w'
                                    go_simp
                                    with_reducible rfl
                                  rotate_left; (simp only [Act.put, List.setIfInBounds_toArray, List.set_cons_zero, List.set_cons_succ, i64_w, i32_w]; rfl)
                                  refine pure_ (i := 33) (N := some 124) (v := ?_) (a' := ?_) (dn_ 34 37) rfl rfl (any_of HT_.out (by kernel_rfl)) (fun _ _ _ h => h) (Or.inl ⟨by rfl, ?_⟩) ?_ ?_
                                  rotate_left
                                  · intro w'
                                    go_simp
                                    with_reducible rfl
                                  rotate_left; (simp only [Act.put, List.setIfInBounds_toArray, List.set_cons_zero, List.set_cons_succ, i64_w, i32_w]; rfl)
                                  refine pure_ (i := 34) (N := some 125) (v := ?_) (a' := ?_) (dn_ 35 37) rfl rfl (any_of HT_.out (by kernel_rfl)) (fun _ _ _ h => h) (Or.inl ⟨by rfl, ?_⟩) ?_ ?_
                                  rotate_left
                                  · intro w'
                                    go_simp
                                    with_reducible rfl
                                  rotate_left; (simp only [Act.put, List.setIfInBounds_toArray, List.set_cons_zero, List.set_cons_succ, i64_w, i32_w]; rfl)
                                  refine pure_ (i := 35) (N := some 126) (v := ?_) (a' := ?_) (dn_ 36 37) rfl rfl (any_of HT_.out (by kernel_rfl)) (fun _ _ _ h => h) (Or.inl ⟨by rfl, ?_⟩) ?_ ?_
                                  rotate_left
                                  · intro w'
                                    go_simp
                                    with_reducible rfl
                                  rotate_left; (simp only [Act.put, List.setIfInBounds_toArray, List.set_cons_zero, List.set_cons_succ, i64_w, i32_w]; rfl)
                                  refine pure_ (i := 36) (N := some 4) (v := ?_) (a' := ?_) #[true, true, true, true, true, true, true, true, true, true, true, true, true, true, true, true, true, true, true, true, true, true, true, true, true, true, true, true, true, true, true, true, true, true, true, true, true] rfl rfl (any_of HT_.out (by kernel_rfl)) (fun _ _ _ h => h) (Or.inl ⟨by rfl, ?_⟩) ?_ ?_
                                  rotate_left
                                  · intro w'
                                    go_simp
                                    with_reducible rfl
                                  rotate_left; (simp only [Act.put, List.setIfInBounds_toArray, List.set_cons_zero, List.set_cons_succ, i64_w, i32_w]; rfl)
                                  refine done_ (done_of HT_.out (by kernel_rfl)) ?_
                                  try go_wp2
                                  go_ret
                                  exact ⟨by first | rfl | (simp [errW_none, errW_some] <;> rfl) | (simp only [← hji68, ← hji78]; first | rfl | (simp [errW_none, errW_some] <;> rfl)) | (simp [*, errW_none, errW_some] <;> rfl), by repeat (with_reducible first | exact HB.out | apply pw_below_drewN | apply below_drew1 | refine below_set ?_ GE259.out | refine below_set ?_ GE270.out | refine below_set ?_ GE271.out | refine below_set ?_ GE278.out | refine below_set ?_ GE283.out)⟩
                                · rw [if_neg c75] at H
                                  exact absurd H (by simp)
                              · rw [if_neg c74] at H
                                exact absurd H (by simp)
                            · rw [if_neg c73] at H
                              exact absurd H (by simp)
                          · replace c72 := Bool.eq_false_iff.mpr c72
                            subst c72
                            have H1 : (none) = some r := by rw [if_neg (show ¬ (false = true) by decide)] at H; exact H
                            clear H
                            have H := H1
                            clear H1
                            exact absurd H (by simp)
                        · rw [if_neg c70] at H
                          exact absurd H (by simp)
                      · rw [if_neg c69] at H
                        exact absurd H (by simp)

end Go.Proofs.Ytofbkpdpgmjllaa.F
