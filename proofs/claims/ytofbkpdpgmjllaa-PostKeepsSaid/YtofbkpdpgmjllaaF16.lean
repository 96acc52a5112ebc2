-- Written by a program of this session (xprint.py), out of the translation and of contracts proved by hand.
import Derived.Test.YtofbkpdpgmjllaaF0
import Derived.Test.YtofbkpdpgmjllaaF1
import Derived.Test.YtofbkpdpgmjllaaF3
import Derived.Test.YtofbkpdpgmjllaaF4
import Derived.Test.YtofbkpdpgmjllaaF8
import Derived.Test.YtofbkpdpgmjllaaF10
import Derived.Test.YtofbkpdpgmjllaaF11
namespace Go.Proofs.Ytofbkpdpgmjllaa.F
open Go.RowKit Go.Proofs.YtofbkpdpgmjllaaW.PrintWords Go.Proofs.YtofbkpdpgmjllaaW.PrintLast Go.Proofs.YtofbkpdpgmjllaaW.PrintMore
attribute [local go_sem] max2_int min2_int max_two min_two max_three min_three max_four min_four   -- for this text's walks alone
set_option linter.unusedVariables false
set_option linter.unusedSimpArgs false

attribute [local go_sem high] eqA35
/-! ### watchmanlaw21_PostKeeps: function 4 -/
mutual
def watchmanlaw21_PostKeeps.j0 : Nat → Int → Int → List ByteArray → Bool → Int → List (S35) → Int → List (S35) → Option (Bool)
  | 0, _, _, _, _, _, _, _, _ => none
  | k + 1, x1, x2, x3, x79, x292000, x292001, x300000, x300001 => if x79 = true then (none) else (watchmanlaw21_PostKeeps.l0 k x1 x2 x3 0 x292000 x292001 x300000 x300001)
def watchmanlaw21_PostKeeps.l0 : Nat → Int → Int → List ByteArray → Int → Int → List (S35) → Int → List (S35) → Option (Bool)
  | 0, _, _, _, _, _, _, _, _ => none
  | k + 1, x1, x2, x3, x12, x292000, x292001, x300000, x300001 => if x12 < (x300001.length : Int) then (if 0 ≤ x12 then (if ((rd_T35 x300001 x12).f0) ≥ x292000 then (if ((rd_T35 x300001 x12).f1) = x1 then (if ((rd_T35 x300001 x12).f2) = x2 then (if 0 ≤ (wrap64 (((rd_T35 x300001 x12).f0) - x292000)) then (if (wrap64 (((rd_T35 x300001 x12).f0) - x292000)) < (x3.length : Int) then (watchmanlaw21_PostKeeps.j2 k x1 x2 x3 x12 ((rdOf ByteArray.empty x3 (wrap64 (((rd_T35 x300001 x12).f0) - x292000))).toList != ((rd_T35 x300001 x12).f3).toList) x292000 x292001 x300000 x300001) else (none)) else (none)) else (none)) else (none)) else (watchmanlaw21_PostKeeps.l1 k x1 x2 x3 x12 false 0 x292000 x292001 x300000 x300001 ((rd_T35 x300001 x12).f0) ((rd_T35 x300001 x12).f1) ((rd_T35 x300001 x12).f2) ((rd_T35 x300001 x12).f3))) else (none)) else ((watchmanlaw21_posted.f k).bind fun t308 => (some t308))
def watchmanlaw21_PostKeeps.j2 : Nat → Int → Int → List ByteArray → Int → Bool → Int → List (S35) → Int → List (S35) → Option (Bool)
  | 0, _, _, _, _, _, _, _, _, _ => none
  | k + 1, x1, x2, x3, x12, x119, x292000, x292001, x300000, x300001 => if x119 = true then (none) else (watchmanlaw21_PostKeeps.l0 k x1 x2 x3 (wrap64 (x12 + 1)) x292000 x292001 x300000 x300001)
def watchmanlaw21_PostKeeps.l1 : Nat → Int → Int → List ByteArray → Int → Bool → Int → Int → List (S35) → Int → List (S35) → Int → Int → Int → ByteArray → Option (Bool)
  | 0, _, _, _, _, _, _, _, _, _, _, _, _, _, _ => none
  | k + 1, x1, x2, x3, x12, x14, x15, x292000, x292001, x300000, x300001, x311000, x311001, x311002, x311003 => if x15 < (x292001.length : Int) then (if x14 = true then (watchmanlaw21_PostKeeps.l1 k x1 x2 x3 x12 true (wrap64 (x15 + 1)) x292000 x292001 x300000 x300001 x311000 x311001 x311002 x311003) else (if 0 ≤ x15 then (watchmanlaw21_PostKeeps.l1 k x1 x2 x3 x12 (((rd_T35 x292001 x15).f0) == x311000 && (((rd_T35 x292001 x15).f1) == x311001 && (((rd_T35 x292001 x15).f2) == x311002 && ((((rd_T35 x292001 x15).f3).toList) == x311003.toList)))) (wrap64 (x15 + 1)) x292000 x292001 x300000 x300001 x311000 x311001 x311002 x311003) else (none))) else (if x14 = true then (watchmanlaw21_PostKeeps.l0 k x1 x2 x3 (wrap64 (x12 + 1)) x292000 x292001 x300000 x300001) else (none))
end
def watchmanlaw21_PostKeeps.f (k : Nat) (a0_0 : Int) (l0_1 : List (S35)) (a1 : Int) (a2 : Int) (l3 : List ByteArray) : Option (Bool) := (watchmanlaw21_far.f k a0_0 l0_1 l3).bind fun t292 => (if t292 = true then (some true) else ((post_Send.f k a0_0 l0_1 a1 a2 l3).bind fun bt293 => (if bt293.2.2.2 = 0 then ((post_Is.f k bt293.1 bt293.2.1).bind fun t301 => (if t301 = true then (if (wrap64 ((bt293.2.1.length : Int) + bt293.2.2.1)) = (wrap64 ((l0_1.length : Int) + (l3.length : Int))) then (if bt293.1 = (wrap64 (a0_0 + (l3.length : Int))) then ((post_To.f bt293.1 bt293.2.1 a2).bind fun t302 => ((post_To.f a0_0 l0_1 a2).bind fun t305 => (watchmanlaw21_PostKeeps.j0 k a1 a2 l3 (decide ((t302.length : Int) > (mx 20 (t305.length : Int)))) a0_0 l0_1 bt293.1 bt293.2.1))) else (none)) else (none)) else (none))) else ((watchmanlaw21_posted.f k).bind fun t300 => (if t300 = true then (if bt293.2.2.1 = 0 then (some ((bt293.2.1.length : Int) == 0)) else (none)) else (none))))))
theorem watchmanlaw21_PostKeeps.mono_l : ∀ k, (∀ y0 y1 y2 y3 y4 y5 y6 y7, LeO (watchmanlaw21_PostKeeps.j0 k y0 y1 y2 y3 y4 y5 y6 y7) (watchmanlaw21_PostKeeps.j0 (k + 1) y0 y1 y2 y3 y4 y5 y6 y7)) ∧ (∀ y0 y1 y2 y3 y4 y5 y6 y7, LeO (watchmanlaw21_PostKeeps.l0 k y0 y1 y2 y3 y4 y5 y6 y7) (watchmanlaw21_PostKeeps.l0 (k + 1) y0 y1 y2 y3 y4 y5 y6 y7)) ∧ (∀ y0 y1 y2 y3 y4 y5 y6 y7 y8, LeO (watchmanlaw21_PostKeeps.j2 k y0 y1 y2 y3 y4 y5 y6 y7 y8) (watchmanlaw21_PostKeeps.j2 (k + 1) y0 y1 y2 y3 y4 y5 y6 y7 y8)) ∧ (∀ y0 y1 y2 y3 y4 y5 y6 y7 y8 y9 y10 y11 y12 y13, LeO (watchmanlaw21_PostKeeps.l1 k y0 y1 y2 y3 y4 y5 y6 y7 y8 y9 y10 y11 y12 y13) (watchmanlaw21_PostKeeps.l1 (k + 1) y0 y1 y2 y3 y4 y5 y6 y7 y8 y9 y10 y11 y12 y13))
  | 0 => ⟨fun _ _ _ _ _ _ _ _ r h => by simp [watchmanlaw21_PostKeeps.j0] at h, fun _ _ _ _ _ _ _ _ r h => by simp [watchmanlaw21_PostKeeps.l0] at h, fun _ _ _ _ _ _ _ _ _ r h => by simp [watchmanlaw21_PostKeeps.j2] at h, fun _ _ _ _ _ _ _ _ _ _ _ _ _ _ r h => by simp [watchmanlaw21_PostKeeps.l1] at h⟩
  | k + 1 => by
    obtain ⟨ih0, ih1, ih2, ih3⟩ := watchmanlaw21_PostKeeps.mono_l k
    refine ⟨?_, ?_, ?_, ?_⟩
    · intro y0 y1 y2 y3 y4 y5 y6 y7
      unfold watchmanlaw21_PostKeeps.j0
      repeat' first
      | (with_reducible exact ih0 _ _ _ _ _ _ _ _)
      | (with_reducible exact ih1 _ _ _ _ _ _ _ _)
      | (with_reducible exact ih2 _ _ _ _ _ _ _ _ _)
      | (with_reducible exact ih3 _ _ _ _ _ _ _ _ _ _ _ _ _ _)
      | (with_reducible exact post_Is.mono _ _ _)
      | (with_reducible exact post_Send.mono _ _ _ _ _ _)
      | (with_reducible exact watchmanlaw21_far.mono _ _ _ _)
      | (with_reducible exact watchmanlaw21_posted.mono _)
      | (with_reducible exact LeO.refl _)
      | (with_reducible exact LeO.none _)
      | (with_reducible refine LeO.ite ?_ ?_)
      | (with_reducible refine LeO.bind ?_ (fun _ => ?_))
      | exact ih0 _ _ _ _ _ _ _ _
      | exact ih1 _ _ _ _ _ _ _ _
      | exact ih2 _ _ _ _ _ _ _ _ _
      | exact ih3 _ _ _ _ _ _ _ _ _ _ _ _ _ _
      | exact post_Is.mono _ _ _
      | exact post_Send.mono _ _ _ _ _ _
      | exact watchmanlaw21_far.mono _ _ _ _
      | exact watchmanlaw21_posted.mono _
      | exact LeO.none _
      | refine LeO.ite ?_ ?_
      | refine LeO.bind ?_ (fun _ => ?_)
    · intro y0 y1 y2 y3 y4 y5 y6 y7
      unfold watchmanlaw21_PostKeeps.l0
      repeat' first
      | (with_reducible exact ih0 _ _ _ _ _ _ _ _)
      | (with_reducible exact ih1 _ _ _ _ _ _ _ _)
      | (with_reducible exact ih2 _ _ _ _ _ _ _ _ _)
      | (with_reducible exact ih3 _ _ _ _ _ _ _ _ _ _ _ _ _ _)
      | (with_reducible exact post_Is.mono _ _ _)
      | (with_reducible exact post_Send.mono _ _ _ _ _ _)
      | (with_reducible exact watchmanlaw21_far.mono _ _ _ _)
      | (with_reducible exact watchmanlaw21_posted.mono _)
      | (with_reducible exact LeO.refl _)
      | (with_reducible exact LeO.none _)
      | (with_reducible refine LeO.ite ?_ ?_)
      | (with_reducible refine LeO.bind ?_ (fun _ => ?_))
      | exact ih0 _ _ _ _ _ _ _ _
      | exact ih1 _ _ _ _ _ _ _ _
      | exact ih2 _ _ _ _ _ _ _ _ _
      | exact ih3 _ _ _ _ _ _ _ _ _ _ _ _ _ _
      | exact post_Is.mono _ _ _
      | exact post_Send.mono _ _ _ _ _ _
      | exact watchmanlaw21_far.mono _ _ _ _
      | exact watchmanlaw21_posted.mono _
      | exact LeO.none _
      | refine LeO.ite ?_ ?_
      | refine LeO.bind ?_ (fun _ => ?_)
    · intro y0 y1 y2 y3 y4 y5 y6 y7 y8
      unfold watchmanlaw21_PostKeeps.j2
      repeat' first
      | (with_reducible exact ih0 _ _ _ _ _ _ _ _)
      | (with_reducible exact ih1 _ _ _ _ _ _ _ _)
      | (with_reducible exact ih2 _ _ _ _ _ _ _ _ _)
      | (with_reducible exact ih3 _ _ _ _ _ _ _ _ _ _ _ _ _ _)
      | (with_reducible exact post_Is.mono _ _ _)
      | (with_reducible exact post_Send.mono _ _ _ _ _ _)
      | (with_reducible exact watchmanlaw21_far.mono _ _ _ _)
      | (with_reducible exact watchmanlaw21_posted.mono _)
      | (with_reducible exact LeO.refl _)
      | (with_reducible exact LeO.none _)
      | (with_reducible refine LeO.ite ?_ ?_)
      | (with_reducible refine LeO.bind ?_ (fun _ => ?_))
      | exact ih0 _ _ _ _ _ _ _ _
      | exact ih1 _ _ _ _ _ _ _ _
      | exact ih2 _ _ _ _ _ _ _ _ _
      | exact ih3 _ _ _ _ _ _ _ _ _ _ _ _ _ _
      | exact post_Is.mono _ _ _
      | exact post_Send.mono _ _ _ _ _ _
      | exact watchmanlaw21_far.mono _ _ _ _
      | exact watchmanlaw21_posted.mono _
      | exact LeO.none _
      | refine LeO.ite ?_ ?_
      | refine LeO.bind ?_ (fun _ => ?_)
    · intro y0 y1 y2 y3 y4 y5 y6 y7 y8 y9 y10 y11 y12 y13
      unfold watchmanlaw21_PostKeeps.l1
      repeat' first
      | (with_reducible exact ih0 _ _ _ _ _ _ _ _)
      | (with_reducible exact ih1 _ _ _ _ _ _ _ _)
      | (with_reducible exact ih2 _ _ _ _ _ _ _ _ _)
      | (with_reducible exact ih3 _ _ _ _ _ _ _ _ _ _ _ _ _ _)
      | (with_reducible exact post_Is.mono _ _ _)
      | (with_reducible exact post_Send.mono _ _ _ _ _ _)
      | (with_reducible exact watchmanlaw21_far.mono _ _ _ _)
      | (with_reducible exact watchmanlaw21_posted.mono _)
      | (with_reducible exact LeO.refl _)
      | (with_reducible exact LeO.none _)
      | (with_reducible refine LeO.ite ?_ ?_)
      | (with_reducible refine LeO.bind ?_ (fun _ => ?_))
      | exact ih0 _ _ _ _ _ _ _ _
      | exact ih1 _ _ _ _ _ _ _ _
      | exact ih2 _ _ _ _ _ _ _ _ _
      | exact ih3 _ _ _ _ _ _ _ _ _ _ _ _ _ _
      | exact post_Is.mono _ _ _
      | exact post_Send.mono _ _ _ _ _ _
      | exact watchmanlaw21_far.mono _ _ _ _
      | exact watchmanlaw21_posted.mono _
      | exact LeO.none _
      | refine LeO.ite ?_ ?_
      | refine LeO.bind ?_ (fun _ => ?_)
theorem watchmanlaw21_PostKeeps.mono : ∀ a0 a1 a2 a3 a4 k, LeO (watchmanlaw21_PostKeeps.f k a0 a1 a2 a3 a4) (watchmanlaw21_PostKeeps.f (k + 1) a0 a1 a2 a3 a4) := by
  intro a0 a1 a2 a3 a4 k
  obtain ⟨ih0, ih1, ih2, ih3⟩ := watchmanlaw21_PostKeeps.mono_l k
  unfold watchmanlaw21_PostKeeps.f
  repeat' first
      | (with_reducible exact ih0 _ _ _ _ _ _ _ _)
      | (with_reducible exact ih1 _ _ _ _ _ _ _ _)
      | (with_reducible exact ih2 _ _ _ _ _ _ _ _ _)
      | (with_reducible exact ih3 _ _ _ _ _ _ _ _ _ _ _ _ _ _)
      | (with_reducible exact post_Is.mono _ _ _)
      | (with_reducible exact post_Send.mono _ _ _ _ _ _)
      | (with_reducible exact watchmanlaw21_far.mono _ _ _ _)
      | (with_reducible exact watchmanlaw21_posted.mono _)
      | (with_reducible exact LeO.refl _)
      | (with_reducible exact LeO.none _)
      | (with_reducible refine LeO.ite ?_ ?_)
      | (with_reducible refine LeO.bind ?_ (fun _ => ?_))
      | exact ih0 _ _ _ _ _ _ _ _
      | exact ih1 _ _ _ _ _ _ _ _
      | exact ih2 _ _ _ _ _ _ _ _ _
      | exact ih3 _ _ _ _ _ _ _ _ _ _ _ _ _ _
      | exact post_Is.mono _ _ _
      | exact post_Send.mono _ _ _ _ _ _
      | exact watchmanlaw21_far.mono _ _ _ _
      | exact watchmanlaw21_posted.mono _
      | exact LeO.none _
      | refine LeO.ite ?_ ?_
      | refine LeO.bind ?_ (fun _ => ?_)
def watchmanlaw21_PostKeeps.T6 : Bool × List (List Nat × List Nat) := (true, [([], []), ([0], [0]), ([1], [1]), ([2, 1], [2]), ([3], [3]), ([4, 3], [3, 4]), ([5, 3], [3, 5]), ([3], [3]), ([6, 7, 3], [3, 6, 7]), ([3], [3]), ([9, 3], [3, 9]), ([10, 3], [3, 10]), ([3], [3]), ([12, 3], [3, 12]), ([11, 13, 3], [3, 11, 13]), ([8, 14, 3], [3, 8, 14]), ([3, 15], [3, 15]), ([16, 3], [16]), ([17], [17]), ([18, 17], [17, 18]), ([17], [17]), ([20, 17], [17, 20]), ([17], [17]), ([22, 17], [17, 22]), ([21, 23, 17], [17, 21, 23]), ([19, 24, 17], [17, 19, 24]), ([17, 25], [17, 25]), ([26, 17], [26]), ([27], [27]), ([27], [27]), ([28, 29, 27, 27], [27, 28, 29]), ([30, 27], [27, 30]), ([27], [27]), ([27], [27]), ([32, 33, 30, 27], [27, 32, 33]), ([34, 27], [27, 34]), ([35, 27], [27, 35]), ([31, 36, 27], [27, 31, 36]), ([27, 37], [27, 37])])
def watchmanlaw21_PostKeeps.B6 : List Nat := [0, 1, 3, 7, 15, 31, 63, 15, 255, 15, 527, 1551, 15, 4111, 15887, 32767, 65535, 131071, 262143, 524287, 262143, 1310719, 262143, 4456447, 15990783, 33554431, 67108863, 134217727, 268435455, 268435455, 1073741823, 2147483647, 268435455, 268435455, 15032385535, 32212254719, 66571993087, 137438953471, 274877906943]
theorem watchmanlaw21_PostKeeps.tab6 : rtab .any (opsOf Try.f4 6) = watchmanlaw21_PostKeeps.T6 := by kernel_rfl
theorem watchmanlaw21_PostKeeps.bits6 : waitsOk watchmanlaw21_PostKeeps.T6.2 watchmanlaw21_PostKeeps.B6 = true := by kernel_rfl
def watchmanlaw21_PostKeeps.T13 : Bool × List (List Nat × List Nat) := (true, [([], []), ([0], [0]), ([], []), ([1, 2], [1, 2]), ([3], [3]), ([4], [4]), ([5, 4], [4, 5]), ([4], [4]), ([6, 7, 4], [4, 6, 7]), ([4, 8], [4, 8]), ([9, 4], [9]), ([10], [10]), ([10], [10]), ([12, 10], [10, 12]), ([10], [10]), ([14, 10], [10, 14]), ([13, 15, 10], [10, 13, 15]), ([11, 16, 10], [10, 11, 16]), ([17, 10], [10, 17]), ([10], [10]), ([19, 10], [10, 19]), ([18, 20, 10], [10, 18, 20]), ([10, 21], [10, 21])])
def watchmanlaw21_PostKeeps.B13 : List Nat := [0, 1, 0, 7, 15, 31, 63, 31, 255, 511, 1023, 2047, 2047, 6143, 2047, 18431, 63487, 131071, 262143, 2047, 526335, 2097151, 4194303]
theorem watchmanlaw21_PostKeeps.tab13 : rtab .any (opsOf Try.f4 13) = watchmanlaw21_PostKeeps.T13 := by kernel_rfl
theorem watchmanlaw21_PostKeeps.bits13 : waitsOk watchmanlaw21_PostKeeps.T13.2 watchmanlaw21_PostKeeps.B13 = true := by kernel_rfl
def watchmanlaw21_PostKeeps.T19 : Bool × List (List Nat × List Nat) := (true, [([], []), ([0], [0]), ([1], [1]), ([2, 1], [1, 2]), ([1], [1]), ([3, 4, 1], [1, 3, 4]), ([5, 1], [1, 5]), ([1], [1]), ([6, 7, 1], [1, 6, 7]), ([1, 8], [1, 8]), ([9, 1, 0, 1, 2, 3, 4, 5, 6, 7, 8, 9], [0, 9])])
def watchmanlaw21_PostKeeps.B19 : List Nat := [0, 1, 3, 7, 3, 31, 63, 3, 255, 511, 1023]
theorem watchmanlaw21_PostKeeps.tab19 : rtab .any (opsOf Try.f4 19) = watchmanlaw21_PostKeeps.T19 := by kernel_rfl
theorem watchmanlaw21_PostKeeps.bits19 : waitsOk watchmanlaw21_PostKeeps.T19.2 watchmanlaw21_PostKeeps.B19 = true := by kernel_rfl
set_option maxHeartbeats 8000000 in
set_option maxRecDepth 100000 in
theorem watchmanlaw21_PostKeeps.calls (k : Nat) (a0_0 : Int) (A0_1 : Option Addr) (c0_1 : Nat) (l0_1 : List (S35)) (a1 : Int) (a2 : Int) (A3 : Option Addr) (c3 : Nat) (l3 : List ByteArray) (r : Bool) (w : World) (hr0_1 : Kd.C k35 w A0_1 l0_1.length l0_1) (hc0_1 : l0_1.length ≤ c0_1) (hr3 : Kd.C Kd.string w A3 l3.length l3) (hc3 : l3.length ≤ c3) (h : watchmanlaw21_PostKeeps.f k a0_0 l0_1 a1 a2 l3 = some r) :
    Calls Try.prog 4 #[.agg #[.int .i64 a0_0, .slice A0_1 l0_1.length c0_1], .int .i64 a1, .int .i64 a2, .slice A3 l3.length c3] w fun e w' => e = .returned (.bool r) ∧ Below w.heap.size w w' := by
  have hu24 := Try.underlying24
  have hu35 := Try.underlying35
  have HR0_1 := Aside0.mk hr0_1
  have HC0_1 := Aside0.mk hc0_1
  clear hr0_1 hc0_1
  have HR3 := Aside0.mk hr3
  have HC3 := Aside0.mk hc3
  clear hr3 hc3
  have HB := Aside0.mk (Below.refl w.heap.size w)
  have H : ((watchmanlaw21_far.f k a0_0 l0_1 l3).bind fun t292 => (if t292 = true then (some true) else ((post_Send.f k a0_0 l0_1 a1 a2 l3).bind fun bt293 => (if bt293.2.2.2 = 0 then ((post_Is.f k bt293.1 bt293.2.1).bind fun t301 => (if t301 = true then (if (wrap64 ((bt293.2.1.length : Int) + bt293.2.2.1)) = (wrap64 ((l0_1.length : Int) + (l3.length : Int))) then (if bt293.1 = (wrap64 (a0_0 + (l3.length : Int))) then ((post_To.f bt293.1 bt293.2.1 a2).bind fun t302 => ((post_To.f a0_0 l0_1 a2).bind fun t305 => (watchmanlaw21_PostKeeps.j0 k a1 a2 l3 (decide ((t302.length : Int) > (mx 20 (t305.length : Int)))) a0_0 l0_1 bt293.1 bt293.2.1))) else (none)) else (none)) else (none))) else ((watchmanlaw21_posted.f k).bind fun t300 => (if t300 = true then (if bt293.2.2.1 = 0 then (some ((bt293.2.1.length : Int) == 0)) else (none)) else (none))))))) = some r := h
  clear h
  replace H := Option.bind_eq_some_iff.mp H
  obtain ⟨t292, A50, H⟩ := H
  replace H : (if t292 = true then (some true) else ((post_Send.f k a0_0 l0_1 a1 a2 l3).bind fun bt293 => (if bt293.2.2.2 = 0 then ((post_Is.f k bt293.1 bt293.2.1).bind fun t301 => (if t301 = true then (if (wrap64 ((bt293.2.1.length : Int) + bt293.2.2.1)) = (wrap64 ((l0_1.length : Int) + (l3.length : Int))) then (if bt293.1 = (wrap64 (a0_0 + (l3.length : Int))) then ((post_To.f bt293.1 bt293.2.1 a2).bind fun t302 => ((post_To.f a0_0 l0_1 a2).bind fun t305 => (watchmanlaw21_PostKeeps.j0 k a1 a2 l3 (decide ((t302.length : Int) > (mx 20 (t305.length : Int)))) a0_0 l0_1 bt293.1 bt293.2.1))) else (none)) else (none)) else (none))) else ((watchmanlaw21_posted.f k).bind fun t300 => (if t300 = true then (if bt293.2.2.1 = 0 then (some ((bt293.2.1.length : Int) == 0)) else (none)) else (none)))))) = some r := H
  have A5 := Aside0.mk A50
  clear A50
  by_cases c6 : t292 = true
  · subst c6
    have H1 : (some true) = some r := by rw [if_pos rfl] at H; exact H
    clear H
    have H := H1
    clear H1
    obtain rfl := Option.some.inj H
    go_enter Try.func4, Try.ntmps4
    go_wp2_with (first | ((with_reducible refine gate_dst (N := 4) rfl ?_); (try (refine gate_guard (by rfl) ?_; dsimp only)); refine box_event ?hg (N := 4) ?hd (cs := #[.int .i64 a0_0, .slice A0_1 l0_1.length c0_1]) (t := 24) ?hr ?_; (case hd => rfl); (case hg => rfl); (case hr => first | (go_simp; done) | (go_simp; rfl)); intro gb291 hg w7 hbox hb; have n0_ := Aside0.mk (below_step HB.out hb); have n1_ := Aside0.mk (hbox); have n2_ := Aside0.mk ((by rw [hg]; exact (below_size HB.out) : w.heap.size ≤ gb291)); have n3_ := Aside0.mk ((by rw [hg]; exact (below_size HB.out) : w.heap.size ≤ gb291)); clear HB; have HB := n0_; have BK291 := n1_; have GW291 := n2_; have GE291 := n3_; clear n0_ n1_ n2_ n3_; clear hb hbox hg; have hcz8_0 : w7.cell? ⟨gb291, 0, none⟩ = some (.int .i64 a0_0) := (blk_cell BK291.out 0).trans rfl; have hcz8_1 : w7.cell? ⟨gb291, 1, none⟩ = some (.slice A0_1 l0_1.length c0_1) := (blk_cell BK291.out 1).trans rfl; have hfz8_0 := blk_frozen BK291.out 0; have hfz8_1 := blk_frozen BK291.out 1) | ((with_reducible refine gate_callee (f := 8) rfl ?_); refine goesL_ (some 18) rfl rfl Try.func8 (by kernel_rfl) rfl #[.agg #[.int .i64 a0_0, .slice A0_1 l0_1.length c0_1], .slice A3 l3.length c3] rfl (by (try simp only [List.map_toArray, List.map_cons, List.map_nil]); first | done | rfl | (simp only [List.length_drop, List.length_take]; rfl)) ?_; (with_reducible refine (watchmanlaw21_far.calls k a0_0 _ _ l0_1 _ _ l3 true _ ?side1 ?side2 ?side3 ?side4 A5.out).mono ?_); (case side1 => exact (Kd.C_below HR0_1.out HB.out)); (case side2 => exact HC0_1.out); (case side3 => exact (Kd.C_below HR3.out HB.out)); (case side4 => exact HC3.out); rintro e w9 ⟨rfl, hb⟩; refine ⟨_, rfl, ?_⟩; have n0_ := Aside0.mk (blk_below BK291.out hb); have n1_ := Aside0.mk (below_step (by repeat (with_reducible first | exact HB.out | apply pw_below_drewN | apply below_drew1 | refine below_set ?_ GE291.out)) hb); clear BK291; clear HB; have BK291 := n0_; have HB := n1_; clear n0_ n1_; (try clear hb); (try clear hb2); (try clear hk); (try clear hi)))
    go_ret
    exact ⟨by first | rfl | (simp [errW_none, errW_some] <;> rfl) | (simp [*, errW_none, errW_some] <;> rfl), by repeat (with_reducible first | exact HB.out | apply pw_below_drewN | apply below_drew1 | refine below_set ?_ GE291.out)⟩
  · replace c6 := Bool.eq_false_iff.mpr c6
    subst c6
    have H1 : ((post_Send.f k a0_0 l0_1 a1 a2 l3).bind fun bt293 => (if bt293.2.2.2 = 0 then ((post_Is.f k bt293.1 bt293.2.1).bind fun t301 => (if t301 = true then (if (wrap64 ((bt293.2.1.length : Int) + bt293.2.2.1)) = (wrap64 ((l0_1.length : Int) + (l3.length : Int))) then (if bt293.1 = (wrap64 (a0_0 + (l3.length : Int))) then ((post_To.f bt293.1 bt293.2.1 a2).bind fun t302 => ((post_To.f a0_0 l0_1 a2).bind fun t305 => (watchmanlaw21_PostKeeps.j0 k a1 a2 l3 (decide ((t302.length : Int) > (mx 20 (t305.length : Int)))) a0_0 l0_1 bt293.1 bt293.2.1))) else (none)) else (none)) else (none))) else ((watchmanlaw21_posted.f k).bind fun t300 => (if t300 = true then (if bt293.2.2.1 = 0 then (some ((bt293.2.1.length : Int) == 0)) else (none)) else (none))))) = some r := by rw [if_neg (show ¬ (false = true) by decide)] at H; exact H
    clear H
    have H := H1
    clear H1
    replace H := Option.bind_eq_some_iff.mp H
    obtain ⟨⟨t293, t294, t297, t298⟩, A100, H⟩ := H
    replace H : (if t298 = 0 then ((post_Is.f k t293 t294).bind fun t301 => (if t301 = true then (if (wrap64 ((t294.length : Int) + t297)) = (wrap64 ((l0_1.length : Int) + (l3.length : Int))) then (if t293 = (wrap64 (a0_0 + (l3.length : Int))) then ((post_To.f t293 t294 a2).bind fun t302 => ((post_To.f a0_0 l0_1 a2).bind fun t305 => (watchmanlaw21_PostKeeps.j0 k a1 a2 l3 (decide ((t302.length : Int) > (mx 20 (t305.length : Int)))) a0_0 l0_1 t293 t294))) else (none)) else (none)) else (none))) else ((watchmanlaw21_posted.f k).bind fun t300 => (if t300 = true then (if t297 = 0 then (some ((t294.length : Int) == 0)) else (none)) else (none)))) = some r := H
    have A10 := Aside0.mk A100
    clear A100
    by_cases c11 : t298 = 0
    · rw [if_pos c11] at H
      have c11b0 : (t298 == 0) = true := beq_iff_eq.mpr c11
      have c11b1 : (t298 != 0) = false := bne_eq_false_iff_eq.mpr c11
      clear c11
      have HC12 := Aside0.mk H
      clear H
      go_enter Try.func4, Try.ntmps4
      go_upto_region 6 with (first | ((with_reducible refine gate_dst (N := 4) rfl ?_); (try (refine gate_guard (by rfl) ?_; dsimp only)); refine box_event ?hg (N := 4) ?hd (cs := #[.int .i64 a0_0, .slice A0_1 l0_1.length c0_1]) (t := 24) ?hr ?_; (case hd => rfl); (case hg => rfl); (case hr => first | (go_simp; done) | (go_simp; rfl)); intro gb291 hg w13 hbox hb; have n0_ := Aside0.mk (below_step HB.out hb); have n1_ := Aside0.mk (hbox); have n2_ := Aside0.mk ((by rw [hg]; exact (below_size HB.out) : w.heap.size ≤ gb291)); have n3_ := Aside0.mk ((by rw [hg]; exact (below_size HB.out) : w.heap.size ≤ gb291)); clear HB; have HB := n0_; have BK291 := n1_; have GW291 := n2_; have GE291 := n3_; clear n0_ n1_ n2_ n3_; clear hb hbox hg; have hcz14_0 : w13.cell? ⟨gb291, 0, none⟩ = some (.int .i64 a0_0) := (blk_cell BK291.out 0).trans rfl; have hcz14_1 : w13.cell? ⟨gb291, 1, none⟩ = some (.slice A0_1 l0_1.length c0_1) := (blk_cell BK291.out 1).trans rfl; have hfz14_0 := blk_frozen BK291.out 0; have hfz14_1 := blk_frozen BK291.out 1) | ((with_reducible refine gate_callee (f := 8) rfl ?_); refine goesL_ (some 18) rfl rfl Try.func8 (by kernel_rfl) rfl #[.agg #[.int .i64 a0_0, .slice A0_1 l0_1.length c0_1], .slice A3 l3.length c3] rfl (by (try simp only [List.map_toArray, List.map_cons, List.map_nil]); first | done | rfl | (simp only [List.length_drop, List.length_take]; rfl)) ?_; (with_reducible refine (watchmanlaw21_far.calls k a0_0 _ _ l0_1 _ _ l3 false _ ?side1 ?side2 ?side3 ?side4 A5.out).mono ?_); (case side1 => exact (Kd.C_below HR0_1.out HB.out)); (case side2 => exact HC0_1.out); (case side3 => exact (Kd.C_below HR3.out HB.out)); (case side4 => exact HC3.out); rintro e w15 ⟨rfl, hb⟩; refine ⟨_, rfl, ?_⟩; have n0_ := Aside0.mk (blk_below BK291.out hb); have n1_ := Aside0.mk (below_step (by repeat (with_reducible first | exact HB.out | apply pw_below_drewN | apply below_drew1 | refine below_set ?_ GE291.out)) hb); clear BK291; clear HB; have BK291 := n0_; have HB := n1_; clear n0_ n1_; (try clear hb); (try clear hb2); (try clear hk); (try clear hi); have hcz16_0 : w15.cell? ⟨gb291, 0, none⟩ = some (.int .i64 a0_0) := (blk_cell BK291.out 0).trans rfl; have hcz16_1 : w15.cell? ⟨gb291, 1, none⟩ = some (.slice A0_1 l0_1.length c0_1) := (blk_cell BK291.out 1).trans rfl; have hfz16_0 := blk_frozen BK291.out 0; have hfz16_1 := blk_frozen BK291.out 1) | ((with_reducible refine gate_callee (f := 10) rfl ?_); refine goesL_ (some 24) rfl rfl Try.func10 (by kernel_rfl) rfl #[.agg #[.int .i64 a0_0, .slice A0_1 l0_1.length c0_1], .int .i64 a1, .int .i64 a2, .slice A3 l3.length c3] rfl (by (try simp only [List.map_toArray, List.map_cons, List.map_nil]); first | done | rfl | (simp only [List.length_drop, List.length_take]; rfl)) ?_; (with_reducible refine (post_Send.calls k a0_0 _ _ l0_1 a1 a2 _ _ l3 t293 t294 t297 t298 _ ?side1 ?side2 ?side3 ?side4 A10.out).mono ?_); (case side1 => exact (Kd.C_below HR0_1.out HB.out)); (case side2 => exact HC0_1.out); (case side3 => exact (Kd.C_below HR3.out HB.out)); (case side4 => exact HC3.out); rintro e w17 ⟨v295, rfl, ho0, hb⟩; refine ⟨_, rfl, ?_⟩; have n0_ := Aside0.mk (Kd.R_lower ho0 (below_size (by repeat (with_reducible first | exact HB.out | apply pw_below_drewN | apply below_drew1 | refine below_set ?_ GE291.out)))); have n1_ := Aside0.mk (blk_below BK291.out hb); have n2_ := Aside0.mk (below_step (by repeat (with_reducible first | exact HB.out | apply pw_below_drewN | apply below_drew1 | refine below_set ?_ GE291.out)) hb); clear BK291; clear HB; have HO296 := n0_; have BK291 := n1_; have HB := n2_; clear n0_ n1_ n2_; (try clear hb); (try clear hb2); (try clear hk); (try clear hi); (try clear ho0)) | ((with_reducible refine gate_dst (N := 9) rfl ?_); (try (refine gate_guard (by rfl) ?_; dsimp only)); refine box_event ?hg (N := 9) ?hd (cs := #[.int .i64 0, .slice none 0 0]) (t := 24) ?hr ?_; (case hd => rfl); (case hg => rfl); (case hr => first | (go_simp; done) | (go_simp; rfl)); intro gb299 hg w18 hbox hb; have n0_ := Aside0.mk (Kd.R_below (HO296.out) hb); have n1_ := Aside0.mk (blk_below BK291.out hb); have n2_ := Aside0.mk (below_step (by repeat (with_reducible first | exact HB.out | apply pw_below_drewN | apply below_drew1 | refine below_set ?_ GE291.out)) hb); have n3_ := Aside0.mk (hbox); have n4_ := Aside0.mk ((by rw [hg]; exact (below_size (by repeat (with_reducible first | exact HB.out | apply pw_below_drewN | apply below_drew1 | refine below_set ?_ GE291.out))) : w.heap.size ≤ gb299)); have n5_ := Aside0.mk ((by rw [hg]; exact (below_size (by repeat (with_reducible first | exact HB.out | apply pw_below_drewN | apply below_drew1 | refine below_set ?_ GE291.out))) : w.heap.size ≤ gb299)); have n6_ := Aside0.mk ((by rw [hg]; exact Nat.ne_of_lt (blk_lt BK291.out) : gb291 ≠ gb299)); have n7_ := Aside0.mk ((by rw [hg]; exact Nat.ne_of_gt (blk_lt BK291.out) : gb299 ≠ gb291)); clear HO296; clear BK291; clear HB; have HO296 := n0_; have BK291 := n1_; have HB := n2_; have BK299 := n3_; have GW299 := n4_; have GE299 := n5_; have NB291_299 := n6_; have NB299_291 := n7_; clear n0_ n1_ n2_ n3_ n4_ n5_ n6_ n7_; clear hb hbox hg; have hnb19 := NB299_291.out; have hnc19 := NB291_299.out; have hcz20_0 : w18.cell? ⟨gb299, 0, none⟩ = some (.int .i64 0) := (blk_cell BK299.out 0).trans rfl; have hcz20_1 : w18.cell? ⟨gb299, 1, none⟩ = some (.slice none 0 0) := (blk_cell BK299.out 1).trans rfl; have hfz20_0 := blk_frozen BK299.out 0; have hfz20_1 := blk_frozen BK299.out 1; obtain ⟨Ao21, co21, eo21⟩ := Kd.R_slice HO296.out; subst eo21))
      (try simp only [Act.put, List.setIfInBounds_toArray, List.set_cons_zero, List.set_cons_succ])
      go_cut [79] (fun v79 wc => ∃ (kq : Nat) (x79_11 : Bool), v79 = .bool x79_11 ∧ Aside0 (watchmanlaw21_PostKeeps.j0 kq a1 a2 l3 x79_11 a0_0 l0_1 t293 t294 = some r) ∧ Aside0 (kq ≤ k) ∧ Aside0 (Kd.R k35 35 wc w.heap.size (fun _ => True) (.slice Ao21 t294.length co21) t294) ∧ Aside0 (wc.heap[gb291]? = some (.cells #[.int .i64 a0_0, (.slice A0_1 l0_1.length c0_1)] 24 (0, 0))) ∧ Aside0 (wc.heap[gb299]? = some (.cells #[.int .i64 t293, (.slice Ao21 t294.length co21)] 24 (0, 0))) ∧ Aside0 (Below w.heap.size w wc))
      case first =>
        have H := HC12.out
        clear HC12
        replace H := Option.bind_eq_some_iff.mp H
        obtain ⟨t301, A220, H⟩ := H
        replace H : (if t301 = true then (if (wrap64 ((t294.length : Int) + t297)) = (wrap64 ((l0_1.length : Int) + (l3.length : Int))) then (if t293 = (wrap64 (a0_0 + (l3.length : Int))) then ((post_To.f t293 t294 a2).bind fun t302 => ((post_To.f a0_0 l0_1 a2).bind fun t305 => (watchmanlaw21_PostKeeps.j0 k a1 a2 l3 (decide ((t302.length : Int) > (mx 20 (t305.length : Int)))) a0_0 l0_1 t293 t294))) else (none)) else (none)) else (none)) = some r := H
        have A22 := Aside0.mk A220
        clear A220
        by_cases c23 : t301 = true
        · subst c23
          have H1 : (if (wrap64 ((t294.length : Int) + t297)) = (wrap64 ((l0_1.length : Int) + (l3.length : Int))) then (if t293 = (wrap64 (a0_0 + (l3.length : Int))) then ((post_To.f t293 t294 a2).bind fun t302 => ((post_To.f a0_0 l0_1 a2).bind fun t305 => (watchmanlaw21_PostKeeps.j0 k a1 a2 l3 (decide ((t302.length : Int) > (mx 20 (t305.length : Int)))) a0_0 l0_1 t293 t294))) else (none)) else (none)) = some r := by rw [if_pos rfl] at H; exact H
          clear H
          have H := H1
          clear H1
          by_cases c24 : (wrap64 ((t294.length : Int) + t297)) = (wrap64 ((l0_1.length : Int) + (l3.length : Int)))
          · rw [if_pos c24] at H
            have c24b0 : ((wrap64 ((t294.length : Int) + t297)) == (wrap64 ((l0_1.length : Int) + (l3.length : Int)))) = true := beq_iff_eq.mpr c24
            have c24b1 : ((wrap64 ((t294.length : Int) + t297)) != (wrap64 ((l0_1.length : Int) + (l3.length : Int)))) = false := bne_eq_false_iff_eq.mpr c24
            clear c24
            (first | rw [c24b0] | (simp only [i64_w, i32_w]; rw [c24b0]) | skip)
            by_cases c25 : t293 = (wrap64 (a0_0 + (l3.length : Int)))
            · rw [if_pos c25] at H
              have c25b0 : (t293 == (wrap64 (a0_0 + (l3.length : Int)))) = true := beq_iff_eq.mpr c25
              have c25b1 : (t293 != (wrap64 (a0_0 + (l3.length : Int)))) = false := bne_eq_false_iff_eq.mpr c25
              clear c25
              replace H := Option.bind_eq_some_iff.mp H
              obtain ⟨t302, A260, H⟩ := H
              replace H : ((post_To.f a0_0 l0_1 a2).bind fun t305 => (watchmanlaw21_PostKeeps.j0 k a1 a2 l3 (decide ((t302.length : Int) > (mx 20 (t305.length : Int)))) a0_0 l0_1 t293 t294)) = some r := H
              have A26 := Aside0.mk A260
              clear A260
              replace H := Option.bind_eq_some_iff.mp H
              obtain ⟨t305, A270, H⟩ := H
              replace H : (watchmanlaw21_PostKeeps.j0 k a1 a2 l3 (decide ((t302.length : Int) > (mx 20 (t305.length : Int)))) a0_0 l0_1 t293 t294) = some r := H
              have A27 := Aside0.mk A270
              clear A270
              obtain ⟨ji28, hji28⟩ : ∃ j_ : Int, (mx 20 (t305.length : Int)) = j_ := ⟨_, rfl⟩
              replace H : (watchmanlaw21_PostKeeps.j0 k a1 a2 l3 (decide ((t302.length : Int) > (ji28))) a0_0 l0_1 t293 t294) = some r := by first | (rw [hji28] at H; exact H) | (simp only [hji28] at H ⊢; exact H)
              (try rw [hji28] at A22)
              (try rw [hji28] at A26)
              (try rw [hji28] at A27)
              (try (have hji28l : 20 ≤ ji28 := by (rw [← hji28]; unfold mx; (repeat' split) <;> omega)))
              (try (have hji28m : 0 ≤ ji28 := by omega))
              have hji28_ : (if 20 < (t305.length : Int) then (t305.length : Int) else 20) = ji28 := hji28
              have H' := Aside0.mk H
              clear H
              try go_wp2
              have n0_ : Aside0 (Kd.R k35 35 ((w18.setCell ⟨gb299, 0, none⟩ (.int .i64 t293)).setCell ⟨gb299, 1, none⟩ (.slice Ao21 t294.length co21)) w.heap.size (fun _ => True) (.slice Ao21 t294.length co21) t294) := ⟨by (with_reducible repeat (first | apply Kd.R_alloc | apply Kd.R_drewN | apply Kd.R_drew)); exact Kd.R_mono (Kd.R_far (p := ⟨gb299, 1, none⟩) (Kd.R_far (p := ⟨gb299, 0, none⟩) (Kd.R_types HO296.out BK299.out (by decide)) (fun _ hk => hk.2) (.int .i64 t293)) (fun _ hk => hk.2) (.slice Ao21 t294.length co21)) (fun _ hk => trivial)⟩
              have n1_ : Aside0 (((w18.setCell ⟨gb299, 0, none⟩ (.int .i64 t293)).setCell ⟨gb299, 1, none⟩ (.slice Ao21 t294.length co21)).heap[gb291]? = some (.cells #[.int .i64 a0_0, .slice A0_1 l0_1.length c0_1] 24 (0, 0))) := ⟨by refine blk_far ?_ NB291_299.out _; refine blk_far ?_ NB291_299.out _; exact BK291.out⟩
              have n2_ : Aside0 (((w18.setCell ⟨gb299, 0, none⟩ (.int .i64 t293)).setCell ⟨gb299, 1, none⟩ (.slice Ao21 t294.length co21)).heap[gb299]? = some (.cells #[.int .i64 t293, .slice Ao21 t294.length co21] 24 (0, 0))) := ⟨by refine blk_put (cs := #[.int .i64 t293, .slice none 0 0]) ?_ 1 _ rfl; refine blk_put (cs := #[.int .i64 0, .slice none 0 0]) ?_ 0 _ rfl; exact BK299.out⟩
              have n3_ : Aside0 (Below w.heap.size w ((w18.setCell ⟨gb299, 0, none⟩ (.int .i64 t293)).setCell ⟨gb299, 1, none⟩ (.slice Ao21 t294.length co21))) := ⟨by repeat (with_reducible first | exact HB.out | apply pw_below_drewN | apply below_drew1 | refine below_set ?_ GE291.out | refine below_set ?_ GE299.out)⟩
              (try clear HO296)
              (try clear BK291)
              (try clear BK299)
              (try clear HB)
              generalize ((w18.setCell ⟨gb299, 0, none⟩ (.int .i64 t293)).setCell ⟨gb299, 1, none⟩ (.slice Ao21 t294.length co21)) = w29 at n0_ n1_ n2_ n3_ ⊢
              have HO296 := n0_
              have BK291 := n1_
              have BK299 := n2_
              have HB := n3_
              clear n0_ n1_ n2_ n3_
              have n0_ := Aside0.mk (Kd.R_drew HO296.out)
              have n1_ := Aside0.mk (blk_drew BK291.out)
              have n2_ := Aside0.mk (blk_drew BK299.out)
              have n3_ := Aside0.mk (below_drew1 HB.out)
              clear HO296
              clear BK291
              clear BK299
              clear HB
              have HO296 := n0_
              have BK291 := n1_
              have BK299 := n2_
              have HB := n3_
              clear n0_ n1_ n2_ n3_
              refine start_ (n := 39) (S := fun w' => w'.cell? ⟨gb299, 0, none⟩ = some (.int .i64 t293) ∧ w'.cell? ⟨gb299, 1, none⟩ = some (.slice Ao21 t294.length co21) ∧ w'.cell? ⟨gb291, 0, none⟩ = some (.int .i64 a0_0) ∧ w'.cell? ⟨gb291, 1, none⟩ = some (.slice A0_1 l0_1.length c0_1)) (ds := []) #[false, false, false, false, false, false, false, false, false, false, false, false, false, false, false, false, false, false, false, false, false, false, false, false, false, false, false, false, false, false, false, false, false, false, false, false, false, false, false] (by kernel_rfl) rfl rfl ⟨(blk_cell BK299.out 0).trans rfl, (blk_cell BK299.out 1).trans rfl, (blk_cell BK291.out 0).trans rfl, (blk_cell BK291.out 1).trans rfl⟩ (fun hHeld => ?_); refine with_tabW watchmanlaw21_PostKeeps.tab6 watchmanlaw21_PostKeeps.bits6 (fun HT_ HW_ => ?_)
              generalize w29.drew = w30 at HO296 BK291 BK299 HB hHeld ⊢
              refine take_ (i := 0) (N := some 41) (v := ?_) (a' := ?_) (dn_ 1 39) rfl rfl (take_ofW HT_.out HW_.out (by kernel_rfl)) (fun _ _ _ h => h) (Or.inl ⟨by rfl, ?_⟩) hHeld ?_ ?_
              rotate_left
              · rintro w' ⟨s0, s1, s2, s3⟩
                go_simp
                with_reducible rfl
              rotate_left; (simp only [Act.put, List.setIfInBounds_toArray, List.set_cons_zero, List.set_cons_succ, i64_w, i32_w]; rfl)
              refine one_ (i := 1) (N := some 42) (dn_ 2 39) rfl rfl (one_of HT_.out (by kernel_rfl)) (by decide) (fun K hK => ?_)
              refine goes_ Try.func25 (by kernel_rfl) rfl #[.agg #[.int .i64 t293, .slice Ao21 t294.length co21]] (by rfl) rfl rfl (by (try simp only [List.map_toArray, List.map_cons, List.map_nil]); first | done | rfl | (simp only [List.length_drop, List.length_take]; rfl)) ?_
              with_reducible refine (post_Is.calls k t293 _ _ t294 true _ ?side1 ?side2 A22.out).mono ?_
              (case side1 => repeat (first | exact (Kd.R_reads' HO296.out).2.2 | (with_reducible refine Kd.C_alloc ?_ _) | (with_reducible refine Kd.C_drewN ?_ _) | (with_reducible refine Kd.C_drew ?_)))
              (case side2 => exact (Kd.R_reads' HO296.out).2.1)
              rintro e w31 ⟨rfl, hb⟩
              refine ⟨_, rfl, ?_⟩
              have n0_ := Aside0.mk (Kd.R_below (HO296.out) hb)
              have n1_ := Aside0.mk (blk_below BK291.out hb)
              have n2_ := Aside0.mk (blk_below BK299.out hb)
              have n3_ := Aside0.mk (below_step (by repeat (with_reducible first | exact HB.out | apply pw_below_drewN | apply below_drew1 | refine below_set ?_ GE291.out | refine below_set ?_ GE299.out)) hb)
              clear HO296
              clear BK291
              clear BK299
              clear HB
              have HO296 := n0_
              have BK291 := n1_
              have BK299 := n2_
              have HB := n3_
              clear n0_ n1_ n2_ n3_
              (try clear hb)
              (try clear hb2)
              (try clear hk)
              (try clear hi)
              refine hK.out _ _ ⟨(blk_cell BK299.out 0).trans rfl, (blk_cell BK299.out 1).trans rfl, (blk_cell BK291.out 0).trans rfl, (blk_cell BK291.out 1).trans rfl⟩ (fun hHeld => ?_)
              clear hK K
              refine norm_ (a' := ?_) ?_ ?_
              rotate_left
              · show Act.put _ (some 42) _ = _
                simp only [Act.put, List.setIfInBounds_toArray, List.set_cons_zero, List.set_cons_succ, i64_w, i32_w]
                rfl
              refine pure_ (i := 2) (N := some 43) (v := ?_) (a' := ?_) (dn_ 3 39) rfl rfl (any_of HT_.out (by kernel_rfl)) (fun _ _ _ h => h) (Or.inl ⟨by rfl, ?_⟩) ?_ ?_
              rotate_left
              · intro w'
                go_simp
                with_reducible rfl
              rotate_left; (simp only [Act.put, List.setIfInBounds_toArray, List.set_cons_zero, List.set_cons_succ, i64_w, i32_w]; rfl)
              refine pure_ (i := 3) (N := some 44) (v := ?_) (a' := ?_) (dn_ 4 39) rfl rfl (any_of HT_.out (by kernel_rfl)) (fun _ _ _ h => h) (Or.inl ⟨by rfl, ?_⟩) ?_ ?_
              rotate_left
              · intro w'
                go_simp
                with_reducible rfl
              rotate_left; (simp only [Act.put, List.setIfInBounds_toArray, List.set_cons_zero, List.set_cons_succ, i64_w, i32_w]; rfl)
              refine pure_ (i := 4) (N := some 45) (v := ?_) (a' := ?_) (dn_ 5 39) rfl rfl (any_of HT_.out (by kernel_rfl)) (fun _ _ _ h => h) (Or.inl ⟨by rfl, ?_⟩) ?_ ?_
              rotate_left
              · intro w'
                go_simp
                with_reducible rfl
              rotate_left; (simp only [Act.put, List.setIfInBounds_toArray, List.set_cons_zero, List.set_cons_succ, i64_w, i32_w]; rfl)
              refine pure_ (i := 7) (N := some 48) (v := ?_) (a' := ?_) #[true, true, true, true, true, false, false, true, false, false, false, false, false, false, false, false, false, false, false, false, false, false, false, false, false, false, false, false, false, false, false, false, false, false, false, false, false, false, false] rfl rfl (any_of HT_.out (by kernel_rfl)) (fun _ _ _ h => h) (Or.inl ⟨by rfl, ?_⟩) ?_ ?_
              rotate_left
              · intro w'
                go_simp
                with_reducible rfl
              rotate_left; (simp only [Act.put, List.setIfInBounds_toArray, List.set_cons_zero, List.set_cons_succ, i64_w, i32_w]; rfl)
              refine pure_ (i := 9) (N := some 50) (v := ?_) (a' := ?_) #[true, true, true, true, true, false, false, true, false, true, false, false, false, false, false, false, false, false, false, false, false, false, false, false, false, false, false, false, false, false, false, false, false, false, false, false, false, false, false] rfl rfl (any_of HT_.out (by kernel_rfl)) (fun _ _ _ h => h) (Or.inl ⟨by rfl, ?_⟩) ?_ ?_
              rotate_left
              · intro w'
                go_simp
                with_reducible rfl
              rotate_left; (simp only [Act.put, List.setIfInBounds_toArray, List.set_cons_zero, List.set_cons_succ, i64_w, i32_w]; rfl)
              refine pure_ (i := 12) (N := some 53) (v := ?_) (a' := ?_) #[true, true, true, true, true, false, false, true, false, true, false, false, true, false, false, false, false, false, false, false, false, false, false, false, false, false, false, false, false, false, false, false, false, false, false, false, false, false, false] rfl rfl (any_of HT_.out (by kernel_rfl)) (fun _ _ _ h => h) (Or.inl ⟨by rfl, ?_⟩) ?_ ?_
              rotate_left
              · intro w'
                go_simp
                with_reducible rfl
              rotate_left; (simp only [Act.put, List.setIfInBounds_toArray, List.set_cons_zero, List.set_cons_succ, i64_w, i32_w]; rfl)
              refine pure_ (i := 13) (N := some 54) (v := ?_) (a' := ?_) #[true, true, true, true, true, false, false, true, false, true, false, false, true, true, false, false, false, false, false, false, false, false, false, false, false, false, false, false, false, false, false, false, false, false, false, false, false, false, false] rfl rfl (any_of HT_.out (by kernel_rfl)) (fun _ _ _ h => h) (Or.inl ⟨by rfl, ?_⟩) ?_ ?_
              rotate_left
              · intro w'
                go_simp
                with_reducible rfl
              rotate_left; (simp only [Act.put, List.setIfInBounds_toArray, List.set_cons_zero, List.set_cons_succ, i64_w, i32_w]; rfl)
              refine take_ (i := 5) (N := some 46) (v := ?_) (a' := ?_) #[true, true, true, true, true, true, false, true, false, true, false, false, true, true, false, false, false, false, false, false, false, false, false, false, false, false, false, false, false, false, false, false, false, false, false, false, false, false, false] rfl rfl (take_ofW HT_.out HW_.out (by kernel_rfl)) (fun _ _ _ h => h) (Or.inl ⟨by rfl, ?_⟩) hHeld ?_ ?_
              rotate_left
              · rintro w' ⟨s0, s1, s2, s3⟩
                go_simp
                with_reducible rfl
              rotate_left; (simp only [Act.put, List.setIfInBounds_toArray, List.set_cons_zero, List.set_cons_succ, i64_w, i32_w]; rfl)
              refine pure_ (i := 6) (N := some 47) (v := ?_) (a' := ?_) #[true, true, true, true, true, true, true, true, false, true, false, false, true, true, false, false, false, false, false, false, false, false, false, false, false, false, false, false, false, false, false, false, false, false, false, false, false, false, false] rfl rfl (any_of HT_.out (by kernel_rfl)) (fun _ _ _ h => h) (Or.inl ⟨by rfl, ?_⟩) ?_ ?_
              rotate_left
              · intro w'
                go_simp
                with_reducible rfl
              rotate_left; (simp only [Act.put, List.setIfInBounds_toArray, List.set_cons_zero, List.set_cons_succ, i64_w, i32_w]; rfl)
              refine pure_ (i := 8) (N := some 49) (v := ?_) (a' := ?_) #[true, true, true, true, true, true, true, true, true, true, false, false, true, true, false, false, false, false, false, false, false, false, false, false, false, false, false, false, false, false, false, false, false, false, false, false, false, false, false] rfl rfl (any_of HT_.out (by kernel_rfl)) (fun _ _ _ h => h) (Or.inl ⟨by rfl, ?_⟩) ?_ ?_
              rotate_left
              · intro w'
                go_simp
                with_reducible rfl
              rotate_left; (simp only [Act.put, List.setIfInBounds_toArray, List.set_cons_zero, List.set_cons_succ, i64_w, i32_w]; rfl)
              refine take_ (i := 10) (N := some 51) (v := ?_) (a' := ?_) #[true, true, true, true, true, true, true, true, true, true, true, false, true, true, false, false, false, false, false, false, false, false, false, false, false, false, false, false, false, false, false, false, false, false, false, false, false, false, false] rfl rfl (take_ofW HT_.out HW_.out (by kernel_rfl)) (fun _ _ _ h => h) (Or.inl ⟨by rfl, ?_⟩) hHeld ?_ ?_
              rotate_left
              · rintro w' ⟨s0, s1, s2, s3⟩
                go_simp
                with_reducible rfl
              rotate_left; (simp only [Act.put, List.setIfInBounds_toArray, List.set_cons_zero, List.set_cons_succ, i64_w, i32_w]; rfl)
              refine pure_ (i := 11) (N := some 52) (v := ?_) (a' := ?_) (dn_ 14 39) rfl rfl (any_of HT_.out (by kernel_rfl)) (fun _ _ _ h => h) (Or.inl ⟨by rfl, ?_⟩) ?_ ?_
              rotate_left
              · intro w'
                go_simp
                with_reducible rfl
              rotate_left; (simp only [Act.put, List.setIfInBounds_toArray, List.set_cons_zero, List.set_cons_succ, i64_w, i32_w]; rfl)
              refine pure_ (i := 14) (N := some 55) (v := ?_) (a' := ?_) (dn_ 15 39) rfl rfl (any_of HT_.out (by kernel_rfl)) (fun _ _ _ h => h) (Or.inl ⟨by rfl, ?_⟩) ?_ ?_
              rotate_left
              · intro w'
                go_simp
                with_reducible rfl
              rotate_left; (simp only [Act.put, List.setIfInBounds_toArray, List.set_cons_zero, List.set_cons_succ, i64_w, i32_w]; rfl)
              refine pure_ (i := 15) (N := some 56) (v := ?_) (a' := ?_) (dn_ 16 39) rfl rfl (any_of HT_.out (by kernel_rfl)) (fun _ _ _ h => h) (Or.inl ⟨by rfl, ?_⟩) ?_ ?_
              rotate_left
              · intro w'
                go_simp
                with_reducible rfl
              rotate_left; (simp only [Act.put, List.setIfInBounds_toArray, List.set_cons_zero, List.set_cons_succ, i64_w, i32_w]; rfl)
              refine pure_ (i := 16) (N := some 57) (v := ?_) (a' := ?_) (dn_ 17 39) rfl rfl (any_of HT_.out (by kernel_rfl)) (fun _ _ _ h => h) (Or.inl ⟨by rfl, ?_⟩) ?_ ?_
              rotate_left
              · intro w'
                go_simp
                with_reducible rfl
              rotate_left; (simp only [Act.put, List.setIfInBounds_toArray, List.set_cons_zero, List.set_cons_succ, i64_w, i32_w]; rfl)
              refine pure_ (i := 17) (N := some 58) (v := ?_) (a' := ?_) (dn_ 18 39) rfl rfl (any_of HT_.out (by kernel_rfl)) (fun _ _ _ h => h) (Or.inl ⟨by rfl, ?_⟩) ?_ ?_
              rotate_left
              · intro w'
                go_simp
                with_reducible rfl
              rotate_left; (simp only [Act.put, List.setIfInBounds_toArray, List.set_cons_zero, List.set_cons_succ, i64_w, i32_w]; rfl)
              refine pure_ (i := 18) (N := some 59) (v := ?_) (a' := ?_) (dn_ 19 39) rfl rfl (any_of HT_.out (by kernel_rfl)) (fun _ _ _ h => h) (Or.inl ⟨by rfl, ?_⟩) ?_ ?_
              rotate_left
              · intro w'
                go_simp
                with_reducible rfl
              rotate_left; (simp only [Act.put, List.setIfInBounds_toArray, List.set_cons_zero, List.set_cons_succ, i64_w, i32_w]; rfl)
              refine pure_ (i := 20) (N := some 61) (v := ?_) (a' := ?_) #[true, true, true, true, true, true, true, true, true, true, true, true, true, true, true, true, true, true, true, false, true, false, false, false, false, false, false, false, false, false, false, false, false, false, false, false, false, false, false] rfl rfl (any_of HT_.out (by kernel_rfl)) (fun _ _ _ h => h) (Or.inl ⟨by rfl, ?_⟩) ?_ ?_
              rotate_left
              · intro w'
                go_simp
                with_reducible rfl
              rotate_left; (simp only [Act.put, List.setIfInBounds_toArray, List.set_cons_zero, List.set_cons_succ, i64_w, i32_w]; rfl)
              refine pure_ (i := 22) (N := some 63) (v := ?_) (a' := ?_) #[true, true, true, true, true, true, true, true, true, true, true, true, true, true, true, true, true, true, true, false, true, false, true, false, false, false, false, false, false, false, false, false, false, false, false, false, false, false, false] rfl rfl (any_of HT_.out (by kernel_rfl)) (fun _ _ _ h => h) (Or.inl ⟨by rfl, ?_⟩) ?_ ?_
              rotate_left
              · intro w'
                go_simp
                with_reducible rfl
              rotate_left; (simp only [Act.put, List.setIfInBounds_toArray, List.set_cons_zero, List.set_cons_succ, i64_w, i32_w]; rfl)
              refine pure_ (i := 23) (N := some 64) (v := ?_) (a' := ?_) #[true, true, true, true, true, true, true, true, true, true, true, true, true, true, true, true, true, true, true, false, true, false, true, true, false, false, false, false, false, false, false, false, false, false, false, false, false, false, false] rfl rfl (any_of HT_.out (by kernel_rfl)) (fun _ _ _ h => h) (Or.inl ⟨by rfl, ?_⟩) ?_ ?_
              rotate_left
              · intro w'
                go_simp
                with_reducible rfl
              rotate_left; (simp only [Act.put, List.setIfInBounds_toArray, List.set_cons_zero, List.set_cons_succ, i64_w, i32_w]; rfl)
              refine take_ (i := 19) (N := some 60) (v := ?_) (a' := ?_) #[true, true, true, true, true, true, true, true, true, true, true, true, true, true, true, true, true, true, true, true, true, false, true, true, false, false, false, false, false, false, false, false, false, false, false, false, false, false, false] rfl rfl (take_ofW HT_.out HW_.out (by kernel_rfl)) (fun _ _ _ h => h) (Or.inl ⟨by rfl, ?_⟩) hHeld ?_ ?_
              rotate_left
              · rintro w' ⟨s0, s1, s2, s3⟩
                go_simp
                with_reducible rfl
              rotate_left; (simp only [Act.put, List.setIfInBounds_toArray, List.set_cons_zero, List.set_cons_succ, i64_w, i32_w]; rfl)
              refine take_ (i := 21) (N := some 62) (v := ?_) (a' := ?_) (dn_ 24 39) rfl rfl (take_ofW HT_.out HW_.out (by kernel_rfl)) (fun _ _ _ h => h) (Or.inl ⟨by rfl, ?_⟩) hHeld ?_ ?_
              rotate_left
              · rintro w' ⟨s0, s1, s2, s3⟩
                go_simp
                with_reducible rfl
              rotate_left; (simp only [Act.put, List.setIfInBounds_toArray, List.set_cons_zero, List.set_cons_succ, i64_w, i32_w]; rfl)
              refine pure_ (i := 24) (N := some 65) (v := ?_) (a' := ?_) (dn_ 25 39) rfl rfl (any_of HT_.out (by kernel_rfl)) (fun _ _ _ h => h) (Or.inl ⟨by rfl, ?_⟩) ?_ ?_
              rotate_left
              · intro w'
                go_simp
                with_reducible rfl
              rotate_left; (simp only [Act.put, List.setIfInBounds_toArray, List.set_cons_zero, List.set_cons_succ, i64_w, i32_w]; rfl)
              refine pure_ (i := 25) (N := some 66) (v := ?_) (a' := ?_) (dn_ 26 39) rfl rfl (any_of HT_.out (by kernel_rfl)) (fun _ _ _ h => h) (Or.inl ⟨by rfl, ?_⟩) ?_ ?_
              rotate_left
              · intro w'
                go_simp
                with_reducible rfl
              rotate_left; (simp only [Act.put, List.setIfInBounds_toArray, List.set_cons_zero, List.set_cons_succ, i64_w, i32_w]; rfl)
              refine pure_ (i := 26) (N := some 67) (v := ?_) (a' := ?_) (dn_ 27 39) rfl rfl (any_of HT_.out (by kernel_rfl)) (fun _ _ _ h => h) (Or.inl ⟨by rfl, ?_⟩) ?_ ?_
              rotate_left
              · intro w'
                go_simp
                with_reducible rfl
              rotate_left; (simp only [Act.put, List.setIfInBounds_toArray, List.set_cons_zero, List.set_cons_succ, i64_w, i32_w]; rfl)
              refine pure_ (i := 27) (N := some 68) (v := ?_) (a' := ?_) (dn_ 28 39) rfl rfl (any_of HT_.out (by kernel_rfl)) (fun _ _ _ h => h) (Or.inl ⟨by rfl, ?_⟩) ?_ ?_
              rotate_left
              · intro w'
                go_simp
                with_reducible rfl
              rotate_left; (simp only [Act.put, List.setIfInBounds_toArray, List.set_cons_zero, List.set_cons_succ, i64_w, i32_w]; rfl)
              refine pure_ (i := 29) (N := some 70) (v := ?_) (a' := ?_) #[true, true, true, true, true, true, true, true, true, true, true, true, true, true, true, true, true, true, true, true, true, true, true, true, true, true, true, true, false, true, false, false, false, false, false, false, false, false, false] rfl rfl (any_of HT_.out (by kernel_rfl)) (fun _ _ _ h => h) (Or.inl ⟨by rfl, ?_⟩) ?_ ?_
              rotate_left
              · intro w'
                go_simp
                with_reducible rfl
              rotate_left; (simp only [Act.put, List.setIfInBounds_toArray, List.set_cons_zero, List.set_cons_succ, i64_w, i32_w]; rfl)
              refine pure_ (i := 33) (N := some 74) (v := ?_) (a' := ?_) #[true, true, true, true, true, true, true, true, true, true, true, true, true, true, true, true, true, true, true, true, true, true, true, true, true, true, true, true, false, true, false, false, false, true, false, false, false, false, false] rfl rfl (any_of HT_.out (by kernel_rfl)) (fun _ _ _ h => h) (Or.inl ⟨by rfl, ?_⟩) ?_ ?_
              rotate_left
              · intro w'
                go_simp
                with_reducible rfl
              rotate_left; (simp only [Act.put, List.setIfInBounds_toArray, List.set_cons_zero, List.set_cons_succ, i64_w, i32_w]; rfl)
              refine take_ (i := 28) (N := some 69) (v := ?_) (a' := ?_) #[true, true, true, true, true, true, true, true, true, true, true, true, true, true, true, true, true, true, true, true, true, true, true, true, true, true, true, true, true, true, false, false, false, true, false, false, false, false, false] rfl rfl (take_ofW HT_.out HW_.out (by kernel_rfl)) (fun _ _ _ h => h) (Or.inl ⟨by rfl, ?_⟩) hHeld ?_ ?_
              rotate_left
              · rintro w' ⟨s0, s1, s2, s3⟩
                go_simp
                with_reducible rfl
              rotate_left; (simp only [Act.put, List.setIfInBounds_toArray, List.set_cons_zero, List.set_cons_succ, i64_w, i32_w]; rfl)
              refine take_ (i := 32) (N := some 73) (v := ?_) (a' := ?_) #[true, true, true, true, true, true, true, true, true, true, true, true, true, true, true, true, true, true, true, true, true, true, true, true, true, true, true, true, true, true, false, false, true, true, false, false, false, false, false] rfl rfl (take_ofW HT_.out HW_.out (by kernel_rfl)) (fun _ _ _ h => h) (Or.inl ⟨by rfl, ?_⟩) hHeld ?_ ?_
              rotate_left
              · rintro w' ⟨s0, s1, s2, s3⟩
                go_simp
                with_reducible rfl
              rotate_left; (simp only [Act.put, List.setIfInBounds_toArray, List.set_cons_zero, List.set_cons_succ, i64_w, i32_w]; rfl)
              refine one_ (i := 30) (N := some 71) #[true, true, true, true, true, true, true, true, true, true, true, true, true, true, true, true, true, true, true, true, true, true, true, true, true, true, true, true, true, true, true, false, true, true, false, false, false, false, false] rfl rfl (one_of HT_.out (by kernel_rfl)) (by decide) (fun K hK => ?_)
              refine goes_ Try.func19 (by kernel_rfl) rfl #[.agg #[.int .i64 t293, .slice Ao21 t294.length co21], .int .i64 a2] (by rfl) rfl rfl (by (try simp only [List.map_toArray, List.map_cons, List.map_nil]); first | done | rfl | (simp only [List.length_drop, List.length_take]; rfl)) ?_
              with_reducible refine (post_To.calls t293 _ _ t294 a2 t302 _ ?side1 ?side2 A26.out).mono ?_
              (case side1 => repeat (first | exact (Kd.R_reads' HO296.out).2.2 | (with_reducible refine Kd.C_alloc ?_ _) | (with_reducible refine Kd.C_drewN ?_ _) | (with_reducible refine Kd.C_drew ?_)))
              (case side2 => exact (Kd.R_reads' HO296.out).2.1)
              rintro e w32 ⟨v303, rfl, ho0, hb⟩
              refine ⟨_, rfl, ?_⟩
              have n0_ := Aside0.mk (Kd.R_elder' (HO296.out) (Kd.R_base ho0) hb)
              have n1_ := Aside0.mk (Kd.R_lower (Kd.R_new' ho0 (Kd.R_lt (HO296.out))) (below_size (by repeat (with_reducible first | exact HB.out | apply pw_below_drewN | apply below_drew1 | refine below_set ?_ GE291.out | refine below_set ?_ GE299.out))))
              have n2_ := Aside0.mk (blk_below BK291.out hb)
              have n3_ := Aside0.mk (blk_below BK299.out hb)
              have n4_ := Aside0.mk (below_step (by repeat (with_reducible first | exact HB.out | apply pw_below_drewN | apply below_drew1 | refine below_set ?_ GE291.out | refine below_set ?_ GE299.out)) hb)
              clear HO296
              clear BK291
              clear BK299
              clear HB
              have HO296 := n0_
              have HO304 := n1_
              have BK291 := n2_
              have BK299 := n3_
              have HB := n4_
              clear n0_ n1_ n2_ n3_ n4_
              (try clear hb)
              (try clear hb2)
              (try clear hk)
              (try clear hi)
              (try clear ho0)
              obtain ⟨Ao33, co33, eo33⟩ := Kd.R_slice HO304.out
              (first | subst eo33 | (injection eo33 with f1_ f2_ f3_; have f4_ := f1_.symm; have f5_ := f3_.symm; clear f1_ f2_ f3_; subst f4_; subst f5_))
              refine hK.out _ _ ⟨(blk_cell BK299.out 0).trans rfl, (blk_cell BK299.out 1).trans rfl, (blk_cell BK291.out 0).trans rfl, (blk_cell BK291.out 1).trans rfl⟩ (fun hHeld => ?_)
              clear hK K
              refine norm_ (a' := ?_) ?_ ?_
              rotate_left
              · show Act.put _ (some 71) _ = _
                simp only [Act.put, List.setIfInBounds_toArray, List.set_cons_zero, List.set_cons_succ, i64_w, i32_w]
                rfl
              refine pure_ (i := 31) (N := some 72) (v := ?_) (a' := ?_) (dn_ 34 39) rfl rfl (any_of HT_.out (by kernel_rfl)) (fun _ _ _ h => h) (Or.inl ⟨by rfl, ?_⟩) ?_ ?_
              rotate_left
              · intro w'
                go_simp
                with_reducible rfl
              rotate_left; (simp only [Act.put, List.setIfInBounds_toArray, List.set_cons_zero, List.set_cons_succ, i64_w, i32_w]; rfl)
              refine one_ (i := 34) (N := some 75) (dn_ 35 39) rfl rfl (one_of HT_.out (by kernel_rfl)) (by decide) (fun K hK => ?_)
              refine goes_ Try.func19 (by kernel_rfl) rfl #[.agg #[.int .i64 a0_0, .slice A0_1 l0_1.length c0_1], .int .i64 a2] (by rfl) rfl rfl (by (try simp only [List.map_toArray, List.map_cons, List.map_nil]); first | done | rfl | (simp only [List.length_drop, List.length_take]; rfl)) ?_
              with_reducible refine (post_To.calls a0_0 _ _ l0_1 a2 t305 _ ?side1 ?side2 A27.out).mono ?_
              (case side1 => exact (Kd.C_below HR0_1.out HB.out))
              (case side2 => exact HC0_1.out)
              rintro e w34 ⟨v306, rfl, ho0, hb⟩
              refine ⟨_, rfl, ?_⟩
              have n0_ := Aside0.mk (Kd.R_elder' (HO296.out) (Kd.R_base ho0) hb)
              have n1_ := Aside0.mk (Kd.R_elder' (HO304.out) (Kd.R_base ho0) hb)
              have n2_ := Aside0.mk (Kd.R_lower (Kd.R_new' (Kd.R_new' ho0 (Kd.R_lt (HO296.out))) (Kd.R_lt (HO304.out))) (below_size (by repeat (with_reducible first | exact HB.out | apply pw_below_drewN | apply below_drew1 | refine below_set ?_ GE291.out | refine below_set ?_ GE299.out))))
              have n3_ := Aside0.mk (blk_below BK291.out hb)
              have n4_ := Aside0.mk (blk_below BK299.out hb)
              have n5_ := Aside0.mk (below_step (by repeat (with_reducible first | exact HB.out | apply pw_below_drewN | apply below_drew1 | refine below_set ?_ GE291.out | refine below_set ?_ GE299.out)) hb)
              clear HO296
              clear HO304
              clear BK291
              clear BK299
              clear HB
              have HO296 := n0_
              have HO304 := n1_
              have HO307 := n2_
              have BK291 := n3_
              have BK299 := n4_
              have HB := n5_
              clear n0_ n1_ n2_ n3_ n4_ n5_
              (try clear hb)
              (try clear hb2)
              (try clear hk)
              (try clear hi)
              (try clear ho0)
              obtain ⟨Ao35, co35, eo35⟩ := Kd.R_slice HO307.out
              (first | subst eo35 | (injection eo35 with f1_ f2_ f3_; have f4_ := f1_.symm; have f5_ := f3_.symm; clear f1_ f2_ f3_; subst f4_; subst f5_))
              refine hK.out _ _ ⟨(blk_cell BK299.out 0).trans rfl, (blk_cell BK299.out 1).trans rfl, (blk_cell BK291.out 0).trans rfl, (blk_cell BK291.out 1).trans rfl⟩ (fun hHeld => ?_)
              clear hK K
              refine norm_ (a' := ?_) ?_ ?_
              rotate_left
              · show Act.put _ (some 75) _ = _
                simp only [Act.put, List.setIfInBounds_toArray, List.set_cons_zero, List.set_cons_succ, i64_w, i32_w]
                rfl
              refine pure_ (i := 35) (N := some 76) (v := ?_) (a' := ?_) (dn_ 36 39) rfl rfl (any_of HT_.out (by kernel_rfl)) (fun _ _ _ h => h) (Or.inl ⟨by rfl, ?_⟩) ?_ ?_
              rotate_left
              · intro w'
                go_simp
                with_reducible rfl
              rotate_left; (simp only [Act.put, List.setIfInBounds_toArray, List.set_cons_zero, List.set_cons_succ, i64_w, i32_w]; rfl)
              refine pure_ (i := 36) (N := some 77) (v := ?_) (a' := ?_) (dn_ 37 39) rfl rfl (any_of HT_.out (by kernel_rfl)) (fun _ _ _ h => h) (Or.inl ⟨by rfl, ?_⟩) ?_ ?_
              rotate_left
              · intro w'
                go_simp
                with_reducible rfl
              rotate_left; (simp only [Act.put, List.setIfInBounds_toArray, List.set_cons_zero, List.set_cons_succ, i64_w, i32_w]; rfl)
              refine pure_ (i := 37) (N := some 78) (v := ?_) (a' := ?_) (dn_ 38 39) rfl rfl (any_of HT_.out (by kernel_rfl)) (fun _ _ _ h => h) (Or.inl ⟨by rfl, ?_⟩) ?_ ?_
              rotate_left
              · intro w'
                go_simp
                with_reducible rfl
              rotate_left; (simp only [Act.put, List.setIfInBounds_toArray, List.set_cons_zero, List.set_cons_succ, i64_w, i32_w]; rfl)
              refine pure_ (i := 38) (N := some 79) (v := ?_) (a' := ?_) #[true, true, true, true, true, true, true, true, true, true, true, true, true, true, true, true, true, true, true, true, true, true, true, true, true, true, true, true, true, true, true, true, true, true, true, true, true, true, true] rfl rfl (any_of HT_.out (by kernel_rfl)) (fun _ _ _ h => h) (Or.inl ⟨by rfl, ?_⟩) ?_ ?_
              rotate_left
              · intro w'
                go_simp
                with_reducible rfl
              rotate_left; (simp only [Act.put, List.setIfInBounds_toArray, List.set_cons_zero, List.set_cons_succ, i64_w, i32_w]; rfl)
              refine done_ (done_of HT_.out (by kernel_rfl)) ?_
              try go_wp2
              go_meet
              case rel => exact ⟨_, (decide ((t302.length : Int) > (ji28))), (by first | rfl | (simp; done) | (simp only [← hji28] <;> (first | rfl | simp)) | (simp [*]; done)), H', ⟨by first | omega | exact Nat.le_refl _⟩, ⟨by (with_reducible repeat (first | apply Kd.R_alloc | apply Kd.R_drewN | apply Kd.R_drew)); exact Kd.R_mono HO296.out (fun _ hk => trivial)⟩, ⟨by (with_reducible repeat (first | refine blk_drewN ?_ _ | refine blk_drew ?_ | refine blk_alloc ?_ _)); exact BK291.out⟩, ⟨by (with_reducible repeat (first | refine blk_drewN ?_ _ | refine blk_drew ?_ | refine blk_alloc ?_ _)); exact BK299.out⟩, ⟨by repeat (with_reducible first | exact HB.out | apply pw_below_drewN | apply below_drew1 | refine below_set ?_ GE291.out | refine below_set ?_ GE299.out)⟩⟩
            · rw [if_neg c25] at H
              exact absurd H (by simp)
          · rw [if_neg c24] at H
            exact absurd H (by simp)
        · replace c23 := Bool.eq_false_iff.mpr c23
          subst c23
          have H1 : (none) = some r := by rw [if_neg (show ¬ (false = true) by decide)] at H; exact H
          clear H
          have H := H1
          clear H1
          exact absurd H (by simp)
      case rest =>
        clear HC12
        try clear c1
        try clear c2
        try clear p2
        try clear c3
        try clear c4
        try clear c6
        try clear p6
        try clear c8
        try clear c10
        try clear c11
        try clear c11b0
        try clear c11b1
        try clear c19
        try clear c23
        try clear c24
        try clear c24b0
        try clear c24b1
        try clear c25
        try clear c25b0
        try clear c25b1
        try clear hcz14_0
        try clear hcz14_1
        try clear hcz16_0
        try clear hcz16_1
        try clear hcz20_0
        try clear hcz20_1
        try clear hcz8_0
        try clear hcz8_1
        try clear hfz14_0
        try clear hfz14_1
        try clear hfz16_0
        try clear hfz16_1
        try clear hfz20_0
        try clear hfz20_1
        try clear hfz8_0
        try clear hfz8_1
        obtain ⟨kq, x79_11, rfl, HA, HJ11, HO_300001, BK291, BK299, HB⟩ := hcut
        cases kq with
        | zero => exact absurd HA.out (by simp [watchmanlaw21_PostKeeps.j0])
        | succ kj11 =>
          have H := HA.out
          clear HA
          simp only [watchmanlaw21_PostKeeps.j0] at H
          by_cases c36 : x79_11 = true
          · subst c36
            have H1 : (none) = some r := by rw [if_pos rfl] at H; exact H
            clear H
            have H := H1
            clear H1
            exact absurd H (by simp)
          · replace c36 := Bool.eq_false_iff.mpr c36
            subst c36
            have H1 : (watchmanlaw21_PostKeeps.l0 kj11 a1 a2 l3 0 a0_0 l0_1 t293 t294) = some r := by rw [if_neg (show ¬ (false = true) by decide)] at H; exact H
            clear H
            have H := H1
            clear H1
            have H' := Aside0.mk H
            clear H
            go_wp2
            go_loopg [12] kj11 (fun kq v12 w' => ∃ (x12_2 : Int), v12 = .int .i64 x12_2 ∧ Aside0 (watchmanlaw21_PostKeeps.l0 kq a1 a2 l3 x12_2 a0_0 l0_1 t293 t294 = some r) ∧ Aside0 (kq ≤ kj11) ∧ Aside0 (Kd.R k35 35 w' w.heap.size (fun _ => True) (.slice Ao21 t294.length co21) t294) ∧ Aside0 (w'.heap[gb291]? = some (.cells #[.int .i64 a0_0, (.slice A0_1 l0_1.length c0_1)] 24 (0, 0))) ∧ Aside0 (w'.heap[gb299]? = some (.cells #[.int .i64 t293, (.slice Ao21 t294.length co21)] 24 (0, 0))) ∧ Aside0 (Below w.heap.size w w'))
            case atStart => exact ⟨(0), (by first | rfl | (simp; done) | (simp [*]; done)), H', ⟨Nat.le_refl _⟩, ⟨by (with_reducible repeat (first | apply Kd.R_alloc | apply Kd.R_drewN | apply Kd.R_drew)); exact HO_300001.out⟩, ⟨by (with_reducible repeat (first | refine blk_drewN ?_ _ | refine blk_drew ?_ | refine blk_alloc ?_ _)); exact BK291.out⟩, ⟨by (with_reducible repeat (first | refine blk_drewN ?_ _ | refine blk_drew ?_ | refine blk_alloc ?_ _)); exact BK299.out⟩, ⟨by repeat (with_reducible first | exact HB.out | apply pw_below_drewN | apply below_drew1 | refine below_set ?_ GE291.out | refine below_set ?_ GE299.out)⟩⟩
            case round =>
              clear H'
              try clear c1
              try clear c2
              try clear p2
              try clear c3
              try clear c4
              try clear c6
              try clear p6
              try clear c8
              try clear c10
              try clear c11
              try clear c11b0
              try clear c11b1
              try clear c19
              try clear c23
              try clear c24
              try clear c24b0
              try clear c24b1
              try clear c25
              try clear c25b0
              try clear c25b1
              try clear c36
              try clear hcz14_0
              try clear hcz14_1
              try clear hcz16_0
              try clear hcz16_1
              try clear hcz20_0
              try clear hcz20_1
              try clear hcz8_0
              try clear hcz8_1
              try clear hfz14_0
              try clear hfz14_1
              try clear hfz16_0
              try clear hfz16_1
              try clear hfz20_0
              try clear hfz20_1
              try clear hfz8_0
              try clear hfz8_1
              try clear p2
              try clear p6
              obtain ⟨x12_2, rfl, HA, HK2, HO_300001, BK291, BK299, HB⟩ := hrel
              cases gk with
              | zero => exact absurd HA.out (by simp [watchmanlaw21_PostKeeps.l0])
              | succ k2 =>
                have H := HA.out
                clear HA
                simp only [watchmanlaw21_PostKeeps.l0] at H
                by_cases c37 : x12_2 < (t294.length : Int)
                · rw [if_pos c37] at H
                  have c37b0 : decide (x12_2 < (t294.length : Int)) = true := decide_eq_true c37
                  clear c37
                  by_cases c38 : 0 ≤ x12_2
                  · rw [if_pos c38] at H
                    have c38b0 : decide (0 ≤ x12_2) = true := decide_eq_true c38
                    clear c38
                    by_cases c39 : ((rd_T35 t294 x12_2).f0) ≥ a0_0
                    · rw [if_pos c39] at H
                      have c39b0 : decide (a0_0 ≤ ((rd_T35 t294 x12_2).f0)) = true := decide_eq_true c39
                      clear c39
                      have HC40 := Aside0.mk H
                      clear H
                      have hnb41 := NB299_291.out
                      have hnc41 := NB291_299.out
                      have hcz42_0 : wr.cell? ⟨gb299, 0, none⟩ = some (.int .i64 t293) := (blk_cell BK299.out 0).trans rfl
                      have hcz42_1 : wr.cell? ⟨gb299, 1, none⟩ = some (.slice Ao21 t294.length co21) := (blk_cell BK299.out 1).trans rfl
                      have hfz42_0 := blk_frozen BK299.out 0
                      have hfz42_1 := blk_frozen BK299.out 1
                      have p309 : 0 ≤ (x12_2 : Int) := of_decide_eq_true (by first | (with_reducible assumption) | assumption)
                      have q309 : x12_2 < (t294.length : Int) := of_decide_eq_true (by first | (with_reducible assumption) | assumption)
                      obtain ⟨ad309, e309, hx309_0, hx309_1, hx309_2, hx309_3⟩ := at_T35 (Kd.R_reads' HO_300001.out).2.2 x12_2 p309 q309
                      cases e309
                      replace p309 := eq_true p309
                      replace q309 := eq_true q309
                      go_upto_region 13 with (first | ((with_reducible refine gate_dst (N := 13) rfl ?_); (try (refine gate_guard (by rfl) ?_; dsimp only)); refine box_event ?hg (N := 13) ?hd (cs := #[.int .i64 0, .int .i64 0, .int .i64 0, .string (⟨#[]⟩ : ByteArray)]) (t := 35) ?hr ?_; (case hd => rfl); (case hg => rfl); (case hr => first | (go_simp; done) | (go_simp; rfl)); intro gb310 hg w43 hbox hb; have n0_ := Aside0.mk (Kd.R_below (Kd.R_elderB (HO_300001.out) gb310 (Nat.le_of_eq hg.symm)) hb); have n1_ := Aside0.mk (blk_below BK291.out hb); have n2_ := Aside0.mk (blk_below BK299.out hb); have n3_ := Aside0.mk (below_step (by repeat (with_reducible first | exact HB.out | apply pw_below_drewN | apply below_drew1 | refine below_set ?_ GE291.out | refine below_set ?_ GE299.out)) hb); have n4_ := Aside0.mk (hbox); have n5_ := Aside0.mk ((by rw [hg]; exact (below_size (by repeat (with_reducible first | exact HB.out | apply pw_below_drewN | apply below_drew1 | refine below_set ?_ GE291.out | refine below_set ?_ GE299.out))) : w.heap.size ≤ gb310)); have n6_ := Aside0.mk ((by rw [hg]; exact (below_size (by repeat (with_reducible first | exact HB.out | apply pw_below_drewN | apply below_drew1 | refine below_set ?_ GE291.out | refine below_set ?_ GE299.out))) : w.heap.size ≤ gb310)); have n7_ := Aside0.mk ((by rw [hg]; exact Nat.ne_of_lt (blk_lt BK291.out) : gb291 ≠ gb310)); have n8_ := Aside0.mk ((by rw [hg]; exact Nat.ne_of_gt (blk_lt BK291.out) : gb310 ≠ gb291)); have n9_ := Aside0.mk ((by rw [hg]; exact Nat.ne_of_lt (blk_lt BK299.out) : gb299 ≠ gb310)); have n10_ := Aside0.mk ((by rw [hg]; exact Nat.ne_of_gt (blk_lt BK299.out) : gb310 ≠ gb299)); clear HO_300001; clear BK291; clear BK299; clear HB; have HO_300001 := n0_; have BK291 := n1_; have BK299 := n2_; have HB := n3_; have BK310 := n4_; have GW310 := n5_; have GE310 := n6_; have NB291_310 := n7_; have NB310_291 := n8_; have NB299_310 := n9_; have NB310_299 := n10_; clear n0_ n1_ n2_ n3_ n4_ n5_ n6_ n7_ n8_ n9_ n10_; clear hb hbox hg; have hnb44 := NB310_291.out; have hnc44 := NB291_310.out; have hnb45 := NB310_299.out; have hnc45 := NB299_310.out; have hcz46_0 : w43.cell? ⟨gb310, 0, none⟩ = some (.int .i64 0) := (blk_cell BK310.out 0).trans rfl; have hcz46_1 : w43.cell? ⟨gb310, 1, none⟩ = some (.int .i64 0) := (blk_cell BK310.out 1).trans rfl; have hcz46_2 : w43.cell? ⟨gb310, 2, none⟩ = some (.int .i64 0) := (blk_cell BK310.out 2).trans rfl; have hcz46_3 : w43.cell? ⟨gb310, 3, none⟩ = some (.string (⟨#[]⟩ : ByteArray)) := (blk_cell BK310.out 3).trans rfl; have hfz46_0 := blk_frozen BK310.out 0; have hfz46_1 := blk_frozen BK310.out 1; have hfz46_2 := blk_frozen BK310.out 2; have hfz46_3 := blk_frozen BK310.out 3; have hcz47_0 : w43.cell? ⟨gb291, 0, none⟩ = some (.int .i64 a0_0) := (blk_cell BK291.out 0).trans rfl; have hcz47_1 : w43.cell? ⟨gb291, 1, none⟩ = some (.slice A0_1 l0_1.length c0_1) := (blk_cell BK291.out 1).trans rfl; have hfz47_0 := blk_frozen BK291.out 0; have hfz47_1 := blk_frozen BK291.out 1))
                      (try simp only [Act.put, List.setIfInBounds_toArray, List.set_cons_zero, List.set_cons_succ])
                      go_cut [119] (fun v119 wc => ∃ (kq : Nat) (x119_39 : Bool), v119 = .bool x119_39 ∧ Aside0 (watchmanlaw21_PostKeeps.j2 kq a1 a2 l3 x12_2 x119_39 a0_0 l0_1 t293 t294 = some r) ∧ Aside0 (kq ≤ k2) ∧ Aside0 (Kd.R k35 35 wc w.heap.size (fun k_ => k_ ≠ gb310) (.slice (some ad309) t294.length co21) t294) ∧ Aside0 (wc.heap[gb291]? = some (.cells #[.int .i64 a0_0, (.slice A0_1 l0_1.length c0_1)] 24 (0, 0))) ∧ Aside0 (wc.heap[gb299]? = some (.cells #[.int .i64 t293, (.slice (some ad309) t294.length co21)] 24 (0, 0))) ∧ Aside0 (wc.heap[gb310]? = some (.cells #[.int .i64 ((rd_T35 t294 x12_2).f0), .int .i64 ((rd_T35 t294 x12_2).f1), .int .i64 ((rd_T35 t294 x12_2).f2), .string ((rd_T35 t294 x12_2).f3)] 35 (0, 0))) ∧ Aside0 (Below w.heap.size w wc))
                      case first =>
                        have H := HC40.out
                        clear HC40
                        by_cases c48 : ((rd_T35 t294 x12_2).f1) = a1
                        · rw [if_pos c48] at H
                          have c48b0 : (((rd_T35 t294 x12_2).f1) == a1) = true := beq_iff_eq.mpr c48
                          have c48b1 : (((rd_T35 t294 x12_2).f1) != a1) = false := bne_eq_false_iff_eq.mpr c48
                          clear c48
                          (first | rw [c48b0] | (simp only [i64_w, i32_w]; rw [c48b0]) | skip)
                          by_cases c49 : ((rd_T35 t294 x12_2).f2) = a2
                          · rw [if_pos c49] at H
                            have c49b0 : (((rd_T35 t294 x12_2).f2) == a2) = true := beq_iff_eq.mpr c49
                            have c49b1 : (((rd_T35 t294 x12_2).f2) != a2) = false := bne_eq_false_iff_eq.mpr c49
                            clear c49
                            obtain ⟨ji50, hji50⟩ : ∃ j_ : Int, (wrap64 (((rd_T35 t294 x12_2).f0) - a0_0)) = j_ := ⟨_, rfl⟩
                            replace H : (if 0 ≤ (ji50) then (if (ji50) < (l3.length : Int) then (watchmanlaw21_PostKeeps.j2 k2 a1 a2 l3 x12_2 ((rdOf ByteArray.empty l3 (ji50)).toList != ((rd_T35 t294 x12_2).f3).toList) a0_0 l0_1 t293 t294) else (none)) else (none)) = some r := by first | (rw [hji50] at H; exact H) | (simp only [hji50] at H ⊢; exact H)
                            have hji50w : (IntKind.i64.wrap (((rd_T35 t294 x12_2).f0) - a0_0)) = ji50 := (i64_w _).trans hji50
                            by_cases c51 : 0 ≤ (ji50)
                            · rw [if_pos c51] at H
                              have c51b0 : decide (0 ≤ (ji50)) = true := decide_eq_true c51
                              clear c51
                              by_cases c52 : (ji50) < (l3.length : Int)
                              · rw [if_pos c52] at H
                                have c52b0 : decide ((ji50) < (l3.length : Int)) = true := decide_eq_true c52
                                clear c52
                                have H' := Aside0.mk H
                                clear H
                                try go_wp2
                                have n0_ : Aside0 (Kd.R k35 35 ((((w43.setCell ⟨gb310, 0, none⟩ (.int .i64 ((rd_T35 t294 x12_2).f0))).setCell ⟨gb310, 1, none⟩ (.int .i64 ((rd_T35 t294 x12_2).f1))).setCell ⟨gb310, 2, none⟩ (.int .i64 ((rd_T35 t294 x12_2).f2))).setCell ⟨gb310, 3, none⟩ (.string ((rd_T35 t294 x12_2).f3))) w.heap.size (fun k_ => k_ ≠ gb310) (.slice (some ad309) t294.length co21) t294) := ⟨by (with_reducible repeat (first | apply Kd.R_alloc | apply Kd.R_drewN | apply Kd.R_drew)); exact Kd.R_mono (Kd.R_far (p := ⟨gb310, 3, none⟩) (Kd.R_far (p := ⟨gb310, 2, none⟩) (Kd.R_far (p := ⟨gb310, 1, none⟩) (Kd.R_far (p := ⟨gb310, 0, none⟩) (Kd.R_mono HO_300001.out (fun k_ hk => (⟨hk, hk.2⟩ : _ ∧ k_ ≠ gb310))) (fun _ hk => hk.2) (.int .i64 ((rd_T35 t294 x12_2).f0))) (fun _ hk => hk.2) (.int .i64 ((rd_T35 t294 x12_2).f1))) (fun _ hk => hk.2) (.int .i64 ((rd_T35 t294 x12_2).f2))) (fun _ hk => hk.2) (.string ((rd_T35 t294 x12_2).f3))) (fun _ hk => hk.1.2)⟩
                                have n1_ : Aside0 (((((w43.setCell ⟨gb310, 0, none⟩ (.int .i64 ((rd_T35 t294 x12_2).f0))).setCell ⟨gb310, 1, none⟩ (.int .i64 ((rd_T35 t294 x12_2).f1))).setCell ⟨gb310, 2, none⟩ (.int .i64 ((rd_T35 t294 x12_2).f2))).setCell ⟨gb310, 3, none⟩ (.string ((rd_T35 t294 x12_2).f3))).heap[gb291]? = some (.cells #[.int .i64 a0_0, .slice A0_1 l0_1.length c0_1] 24 (0, 0))) := ⟨by refine blk_far ?_ NB291_310.out _; refine blk_far ?_ NB291_310.out _; refine blk_far ?_ NB291_310.out _; refine blk_far ?_ NB291_310.out _; exact BK291.out⟩
                                have n2_ : Aside0 (((((w43.setCell ⟨gb310, 0, none⟩ (.int .i64 ((rd_T35 t294 x12_2).f0))).setCell ⟨gb310, 1, none⟩ (.int .i64 ((rd_T35 t294 x12_2).f1))).setCell ⟨gb310, 2, none⟩ (.int .i64 ((rd_T35 t294 x12_2).f2))).setCell ⟨gb310, 3, none⟩ (.string ((rd_T35 t294 x12_2).f3))).heap[gb299]? = some (.cells #[.int .i64 t293, .slice (some ad309) t294.length co21] 24 (0, 0))) := ⟨by refine blk_far ?_ NB299_310.out _; refine blk_far ?_ NB299_310.out _; refine blk_far ?_ NB299_310.out _; refine blk_far ?_ NB299_310.out _; exact BK299.out⟩
                                have n3_ : Aside0 (((((w43.setCell ⟨gb310, 0, none⟩ (.int .i64 ((rd_T35 t294 x12_2).f0))).setCell ⟨gb310, 1, none⟩ (.int .i64 ((rd_T35 t294 x12_2).f1))).setCell ⟨gb310, 2, none⟩ (.int .i64 ((rd_T35 t294 x12_2).f2))).setCell ⟨gb310, 3, none⟩ (.string ((rd_T35 t294 x12_2).f3))).heap[gb310]? = some (.cells #[.int .i64 ((rd_T35 t294 x12_2).f0), .int .i64 ((rd_T35 t294 x12_2).f1), .int .i64 ((rd_T35 t294 x12_2).f2), .string ((rd_T35 t294 x12_2).f3)] 35 (0, 0))) := ⟨by refine blk_put (cs := #[.int .i64 ((rd_T35 t294 x12_2).f0), .int .i64 ((rd_T35 t294 x12_2).f1), .int .i64 ((rd_T35 t294 x12_2).f2), .string (⟨#[]⟩ : ByteArray)]) ?_ 3 _ rfl; refine blk_put (cs := #[.int .i64 ((rd_T35 t294 x12_2).f0), .int .i64 ((rd_T35 t294 x12_2).f1), .int .i64 0, .string (⟨#[]⟩ : ByteArray)]) ?_ 2 _ rfl; refine blk_put (cs := #[.int .i64 ((rd_T35 t294 x12_2).f0), .int .i64 0, .int .i64 0, .string (⟨#[]⟩ : ByteArray)]) ?_ 1 _ rfl; refine blk_put (cs := #[.int .i64 0, .int .i64 0, .int .i64 0, .string (⟨#[]⟩ : ByteArray)]) ?_ 0 _ rfl; exact BK310.out⟩
                                have n4_ : Aside0 (Below w.heap.size w ((((w43.setCell ⟨gb310, 0, none⟩ (.int .i64 ((rd_T35 t294 x12_2).f0))).setCell ⟨gb310, 1, none⟩ (.int .i64 ((rd_T35 t294 x12_2).f1))).setCell ⟨gb310, 2, none⟩ (.int .i64 ((rd_T35 t294 x12_2).f2))).setCell ⟨gb310, 3, none⟩ (.string ((rd_T35 t294 x12_2).f3)))) := ⟨by repeat (with_reducible first | exact HB.out | apply pw_below_drewN | apply below_drew1 | refine below_set ?_ GE291.out | refine below_set ?_ GE299.out | refine below_set ?_ GE310.out)⟩
                                (try clear HO_300001)
                                (try clear BK291)
                                (try clear BK299)
                                (try clear BK310)
                                (try clear HB)
                                generalize ((((w43.setCell ⟨gb310, 0, none⟩ (.int .i64 ((rd_T35 t294 x12_2).f0))).setCell ⟨gb310, 1, none⟩ (.int .i64 ((rd_T35 t294 x12_2).f1))).setCell ⟨gb310, 2, none⟩ (.int .i64 ((rd_T35 t294 x12_2).f2))).setCell ⟨gb310, 3, none⟩ (.string ((rd_T35 t294 x12_2).f3))) = w53 at n0_ n1_ n2_ n3_ n4_ ⊢
                                have HO_300001 := n0_
                                have BK291 := n1_
                                have BK299 := n2_
                                have BK310 := n3_
                                have HB := n4_
                                clear n0_ n1_ n2_ n3_ n4_
                                have n0_ := Aside0.mk (Kd.R_drew HO_300001.out)
                                have n1_ := Aside0.mk (blk_drew BK291.out)
                                have n2_ := Aside0.mk (blk_drew BK299.out)
                                have n3_ := Aside0.mk (blk_drew BK310.out)
                                have n4_ := Aside0.mk (below_drew1 HB.out)
                                clear HO_300001
                                clear BK291
                                clear BK299
                                clear BK310
                                clear HB
                                have HO_300001 := n0_
                                have BK291 := n1_
                                have BK299 := n2_
                                have BK310 := n3_
                                have HB := n4_
                                clear n0_ n1_ n2_ n3_ n4_
                                have p311 : 0 ≤ ((ji50) : Int) := of_decide_eq_true (by first | (with_reducible assumption) | assumption)
                                have q311 : (ji50) < (l3.length : Int) := of_decide_eq_true (by first | (with_reducible assumption) | assumption)
                                obtain ⟨ad311, e311, hx311_0⟩ := Kd.at_string HR3.out (ji50) p311 q311
                                have hw311_0 := hx311_0
                                cases e311
                                replace hx311_0 := (HB.out.cell (World.block_lt_of_cell? w _ hx311_0)).trans hx311_0
                                replace p311 := eq_true p311
                                replace q311 := eq_true q311
                                refine start_ (n := 23) (S := fun w' => w'.cell? ⟨gb310, 0, none⟩ = some (.int .i64 ((rd_T35 t294 x12_2).f0)) ∧ w'.cell? ⟨gb310, 1, none⟩ = some (.int .i64 ((rd_T35 t294 x12_2).f1)) ∧ w'.cell? ⟨gb310, 2, none⟩ = some (.int .i64 ((rd_T35 t294 x12_2).f2)) ∧ w'.cell? ⟨gb310, 3, none⟩ = some (.string ((rd_T35 t294 x12_2).f3)) ∧ w'.cell? ⟨gb291, 0, none⟩ = some (.int .i64 a0_0) ∧ w'.cell? ⟨gb291, 1, none⟩ = some (.slice A0_1 l0_1.length c0_1) ∧ w'.cell? (ad311.add ((ji50)).toNat) = some (.string (rdOf ByteArray.empty l3 (ji50)))) (ds := []) #[false, false, false, false, false, false, false, false, false, false, false, false, false, false, false, false, false, false, false, false, false, false, false] (by kernel_rfl) rfl rfl ⟨(blk_cell BK310.out 0).trans rfl, (blk_cell BK310.out 1).trans rfl, (blk_cell BK310.out 2).trans rfl, (blk_cell BK310.out 3).trans rfl, (blk_cell BK291.out 0).trans rfl, (blk_cell BK291.out 1).trans rfl, ((HB.out.cell (World.block_lt_of_cell? w _ hw311_0)).trans hw311_0)⟩ (fun hHeld => ?_); refine with_tabW watchmanlaw21_PostKeeps.tab13 watchmanlaw21_PostKeeps.bits13 (fun HT_ HW_ => ?_)
                                generalize w53.drew = w54 at HO_300001 BK291 BK299 BK310 HB hx311_0 hHeld ⊢
                                refine pure_ (i := 0) (N := some 97) (v := ?_) (a' := ?_) (dn_ 1 23) rfl rfl (any_of HT_.out (by kernel_rfl)) (fun _ _ _ h => h) (Or.inl ⟨by rfl, ?_⟩) ?_ ?_
                                rotate_left
                                · intro w'
                                  go_simp
                                  with_reducible rfl
                                rotate_left; (simp only [Act.put, List.setIfInBounds_toArray, List.set_cons_zero, List.set_cons_succ, i64_w, i32_w]; rfl)
                                refine pure_ (i := 2) (N := some 99) (v := ?_) (a' := ?_) #[true, false, true, false, false, false, false, false, false, false, false, false, false, false, false, false, false, false, false, false, false, false, false] rfl rfl (any_of HT_.out (by kernel_rfl)) (fun _ _ _ h => h) (Or.inl ⟨by rfl, ?_⟩) ?_ ?_
                                rotate_left
                                · intro w'
                                  go_simp
                                  with_reducible rfl
                                rotate_left; (simp only [Act.put, List.setIfInBounds_toArray, List.set_cons_zero, List.set_cons_succ, i64_w, i32_w]; rfl)
                                refine take_ (i := 1) (N := some 98) (v := ?_) (a' := ?_) (dn_ 3 23) rfl rfl (take_ofW HT_.out HW_.out (by kernel_rfl)) (fun _ _ _ h => h) (Or.inl ⟨by rfl, ?_⟩) hHeld ?_ ?_
                                rotate_left
                                · rintro w' ⟨s0, s1, s2, s3, s4, s5, s6⟩
                                  go_simp
                                  with_reducible rfl
                                rotate_left; (simp only [Act.put, List.setIfInBounds_toArray, List.set_cons_zero, List.set_cons_succ, i64_w, i32_w]; rfl)
                                refine pure_ (i := 3) (N := some 100) (v := ?_) (a' := ?_) (dn_ 4 23) rfl rfl (any_of HT_.out (by kernel_rfl)) (fun _ _ _ h => h) (Or.inl ⟨by rfl, ?_⟩) ?_ ?_
                                rotate_left
                                · intro w'
                                  go_simp
                                  with_reducible rfl
                                rotate_left; (simp only [Act.put, List.setIfInBounds_toArray, List.set_cons_zero, List.set_cons_succ, i64_w, i32_w]; rfl)
                                refine pure_ (i := 4) (N := some 101) (v := ?_) (a' := ?_) (dn_ 5 23) rfl rfl (any_of HT_.out (by kernel_rfl)) (fun _ _ _ h => h) (Or.inl ⟨by rfl, ?_⟩) ?_ ?_
                                rotate_left
                                · intro w'
                                  go_simp
                                  with_reducible rfl
                                rotate_left; (simp only [Act.put, List.setIfInBounds_toArray, List.set_cons_zero, List.set_cons_succ, i64_w, i32_w]; rfl)
                                refine pure_ (i := 5) (N := some 102) (v := ?_) (a' := ?_) (dn_ 6 23) rfl rfl (any_of HT_.out (by kernel_rfl)) (fun _ _ _ h => h) (Or.inl ⟨by rfl, ?_⟩) ?_ ?_
                                rotate_left
                                · intro w'
                                  go_simp
                                  with_reducible rfl
                                rotate_left; (simp only [Act.put, List.setIfInBounds_toArray, List.set_cons_zero, List.set_cons_succ, i64_w, i32_w]; rfl)
                                refine pure_ (i := 7) (N := some 104) (v := ?_) (a' := ?_) #[true, true, true, true, true, true, false, true, false, false, false, false, false, false, false, false, false, false, false, false, false, false, false] rfl rfl (any_of HT_.out (by kernel_rfl)) (fun _ _ _ h => h) (Or.inl ⟨by rfl, ?_⟩) ?_ ?_
                                rotate_left
                                · intro w'
                                  go_simp
                                  with_reducible rfl
                                rotate_left; (simp only [Act.put, List.setIfInBounds_toArray, List.set_cons_zero, List.set_cons_succ, i64_w, i32_w]; rfl)
                                refine take_ (i := 6) (N := some 103) (v := ?_) (a' := ?_) (dn_ 8 23) rfl rfl (take_ofW HT_.out HW_.out (by kernel_rfl)) (fun _ _ _ h => h) (Or.inl ⟨by rfl, ?_⟩) hHeld ?_ ?_
                                rotate_left
                                · rintro w' ⟨s0, s1, s2, s3, s4, s5, s6⟩
                                  go_simp
                                  with_reducible rfl
                                rotate_left; (simp only [Act.put, List.setIfInBounds_toArray, List.set_cons_zero, List.set_cons_succ, i64_w, i32_w]; rfl)
                                refine pure_ (i := 8) (N := some 105) (v := ?_) (a' := ?_) (dn_ 9 23) rfl rfl (any_of HT_.out (by kernel_rfl)) (fun _ _ _ h => h) (Or.inl ⟨by rfl, ?_⟩) ?_ ?_
                                rotate_left
                                · intro w'
                                  go_simp
                                  with_reducible rfl
                                rotate_left; (simp only [Act.put, List.setIfInBounds_toArray, List.set_cons_zero, List.set_cons_succ, i64_w, i32_w]; rfl)
                                refine pure_ (i := 9) (N := some 106) (v := ?_) (a' := ?_) (dn_ 10 23) rfl rfl (any_of HT_.out (by kernel_rfl)) (fun _ _ _ h => h) (Or.inl ⟨by rfl, ?_⟩) ?_ ?_
                                rotate_left
                                · intro w'
                                  go_simp
                                  with_reducible rfl
                                rotate_left; (simp only [Act.put, List.setIfInBounds_toArray, List.set_cons_zero, List.set_cons_succ, i64_w, i32_w]; rfl)
                                refine pure_ (i := 10) (N := some 107) (v := ?_) (a' := ?_) (dn_ 11 23) rfl rfl (any_of HT_.out (by kernel_rfl)) (fun _ _ _ h => h) (Or.inl ⟨by rfl, ?_⟩) ?_ ?_
                                rotate_left
                                · intro w'
                                  go_simp
                                  with_reducible rfl
                                rotate_left; (simp only [Act.put, List.setIfInBounds_toArray, List.set_cons_zero, List.set_cons_succ, i64_w, i32_w]; rfl)
                                refine pure_ (i := 11) (N := some 108) (v := ?_) (a' := ?_) (dn_ 12 23) rfl rfl (any_of HT_.out (by kernel_rfl)) (fun _ _ _ h => h) (Or.inl ⟨by rfl, ?_⟩) ?_ ?_
                                rotate_left
                                · intro w'
                                  go_simp
                                  with_reducible rfl
                                rotate_left; (simp only [Act.put, List.setIfInBounds_toArray, List.set_cons_zero, List.set_cons_succ, i64_w, i32_w]; rfl)
                                refine pure_ (i := 12) (N := some 109) (v := ?_) (a' := ?_) (dn_ 13 23) rfl rfl (any_of HT_.out (by kernel_rfl)) (fun _ _ _ h => h) (Or.inl ⟨by rfl, ?_⟩) ?_ ?_
                                rotate_left
                                · intro w'
                                  go_simp
                                  with_reducible rfl
                                rotate_left; (simp only [Act.put, List.setIfInBounds_toArray, List.set_cons_zero, List.set_cons_succ, i64_w, i32_w]; rfl)
                                refine pure_ (i := 14) (N := some 111) (v := ?_) (a' := ?_) #[true, true, true, true, true, true, true, true, true, true, true, true, true, false, true, false, false, false, false, false, false, false, false] rfl rfl (any_of HT_.out (by kernel_rfl)) (fun _ _ _ h => h) (Or.inl ⟨by rfl, ?_⟩) ?_ ?_
                                rotate_left
                                · intro w'
                                  go_simp
                                  with_reducible rfl
                                rotate_left; (simp only [Act.put, List.setIfInBounds_toArray, List.set_cons_zero, List.set_cons_succ, i64_w, i32_w]; rfl)
                                refine pure_ (i := 19) (N := some 116) (v := ?_) (a' := ?_) #[true, true, true, true, true, true, true, true, true, true, true, true, true, false, true, false, false, false, false, true, false, false, false] rfl rfl (any_of HT_.out (by kernel_rfl)) (fun _ _ _ h => h) (Or.inl ⟨by rfl, ?_⟩) ?_ ?_
                                rotate_left
                                · intro w'
                                  go_simp
                                  with_reducible rfl
                                rotate_left; (simp only [Act.put, List.setIfInBounds_toArray, List.set_cons_zero, List.set_cons_succ, i64_w, i32_w]; rfl)
                                refine take_ (i := 13) (N := some 110) (v := ?_) (a' := ?_) #[true, true, true, true, true, true, true, true, true, true, true, true, true, true, true, false, false, false, false, true, false, false, false] rfl rfl (take_ofW HT_.out HW_.out (by kernel_rfl)) (fun _ _ _ h => h) (Or.inl ⟨by rfl, ?_⟩) hHeld ?_ ?_
                                rotate_left
                                · rintro w' ⟨s0, s1, s2, s3, s4, s5, s6⟩
                                  go_simp
                                  with_reducible rfl
                                rotate_left; (simp only [Act.put, List.setIfInBounds_toArray, List.set_cons_zero, List.set_cons_succ, i64_w, i32_w]; rfl)
                                refine take_ (i := 15) (N := some 112) (v := ?_) (a' := ?_) #[true, true, true, true, true, true, true, true, true, true, true, true, true, true, true, true, false, false, false, true, false, false, false] rfl rfl (take_ofW HT_.out HW_.out (by kernel_rfl)) (fun _ _ _ h => h) (Or.inl ⟨by rfl, ?_⟩) hHeld ?_ ?_
                                rotate_left
                                · rintro w' ⟨s0, s1, s2, s3, s4, s5, s6⟩
                                  go_simp
                                  with_reducible rfl
                                rotate_left; (simp only [Act.put, List.setIfInBounds_toArray, List.set_cons_zero, List.set_cons_succ, i64_w, i32_w]; rfl)
                                refine pure_ (i := 16) (N := some 113) (v := ?_) (a' := ?_) #[true, true, true, true, true, true, true, true, true, true, true, true, true, true, true, true, true, false, false, true, false, false, false] rfl rfl (any_of HT_.out (by kernel_rfl)) (fun _ _ _ h => h) (Or.inl ⟨by rfl, ?_⟩) ?_ ?_
                                rotate_left
                                · intro w'
                                  go_simp
                                  with_reducible rfl
                                rotate_left; (simp only [Act.put, List.setIfInBounds_toArray, List.set_cons_zero, List.set_cons_succ, i64_w, i32_w]; rfl)
                                refine pure_ (i := 17) (N := some 114) (v := ?_) (a' := ?_) #[true, true, true, true, true, true, true, true, true, true, true, true, true, true, true, true, true, true, false, true, false, false, false] rfl rfl (any_of HT_.out (by kernel_rfl)) (fun _ _ _ h => h) (Or.inl ⟨by rfl, ?_⟩) ?_ ?_
                                rotate_left
                                · intro w'
                                  go_simp
                                  with_reducible rfl
                                rotate_left; (simp only [Act.put, List.setIfInBounds_toArray, List.set_cons_zero, List.set_cons_succ, i64_w, i32_w]; rfl)
                                refine take_ (i := 18) (N := some 115) (v := ?_) (a' := ?_) (dn_ 20 23) rfl rfl (take_ofW HT_.out HW_.out (by kernel_rfl)) (fun _ _ _ h => h) (Or.inl ⟨by rfl, ?_⟩) hHeld ?_ ?_
                                rotate_left
                                · rintro w' ⟨s0, s1, s2, s3, s4, s5, s6⟩
                                  go_simp
                                  with_reducible rfl
                                rotate_left; (simp only [Act.put, List.setIfInBounds_toArray, List.set_cons_zero, List.set_cons_succ, i64_w, i32_w]; rfl)
                                refine take_ (i := 20) (N := some 117) (v := ?_) (a' := ?_) (dn_ 21 23) rfl rfl (take_ofW HT_.out HW_.out (by kernel_rfl)) (fun _ _ _ h => h) (Or.inl ⟨by rfl, ?_⟩) hHeld ?_ ?_
                                rotate_left
                                · rintro w' ⟨s0, s1, s2, s3, s4, s5, s6⟩
                                  go_simp
                                  with_reducible rfl
                                rotate_left; (simp only [Act.put, List.setIfInBounds_toArray, List.set_cons_zero, List.set_cons_succ, i64_w, i32_w]; rfl)
                                refine pure_ (i := 21) (N := some 118) (v := ?_) (a' := ?_) (dn_ 22 23) rfl rfl (any_of HT_.out (by kernel_rfl)) (fun _ _ _ h => h) (Or.inl ⟨by rfl, ?_⟩) ?_ ?_
                                rotate_left
                                · intro w'
                                  go_simp
                                  with_reducible rfl
                                rotate_left; (simp only [Act.put, List.setIfInBounds_toArray, List.set_cons_zero, List.set_cons_succ, i64_w, i32_w]; rfl)
                                refine pure_ (i := 22) (N := some 119) (v := ?_) (a' := ?_) #[true, true, true, true, true, true, true, true, true, true, true, true, true, true, true, true, true, true, true, true, true, true, true] rfl rfl (any_of HT_.out (by kernel_rfl)) (fun _ _ _ h => h) (Or.inl ⟨by rfl, ?_⟩) ?_ ?_
                                rotate_left
                                · intro w'
                                  go_simp
                                  with_reducible rfl
                                rotate_left; (simp only [Act.put, List.setIfInBounds_toArray, List.set_cons_zero, List.set_cons_succ, i64_w, i32_w]; rfl)
                                refine done_ (done_of HT_.out (by kernel_rfl)) ?_
                                try go_wp2
                                go_meet
                                case rel => exact ⟨_, (((rdOf ByteArray.empty l3 (ji50)).toList != ((rd_T35 t294 x12_2).f3).toList)), (by first | rfl | (simp; done) | (simp only [← hji50] <;> (first | rfl | simp)) | (simp [*]; done)), H', ⟨by have := HJ11.out; have := HK2.out; first | omega | exact Nat.le_refl _⟩, ⟨by (with_reducible repeat (first | apply Kd.R_alloc | apply Kd.R_drewN | apply Kd.R_drew)); exact HO_300001.out⟩, ⟨by (with_reducible repeat (first | refine blk_drewN ?_ _ | refine blk_drew ?_ | refine blk_alloc ?_ _)); exact BK291.out⟩, ⟨by (with_reducible repeat (first | refine blk_drewN ?_ _ | refine blk_drew ?_ | refine blk_alloc ?_ _)); exact BK299.out⟩, ⟨by (with_reducible repeat (first | refine blk_drewN ?_ _ | refine blk_drew ?_ | refine blk_alloc ?_ _)); exact BK310.out⟩, ⟨by repeat (with_reducible first | exact HB.out | apply pw_below_drewN | apply below_drew1 | refine below_set ?_ GE291.out | refine below_set ?_ GE299.out | refine below_set ?_ GE310.out)⟩⟩
                              · rw [if_neg c52] at H
                                exact absurd H (by simp)
                            · rw [if_neg c51] at H
                              exact absurd H (by simp)
                          · rw [if_neg c49] at H
                            exact absurd H (by simp)
                        · rw [if_neg c48] at H
                          exact absurd H (by simp)
                      case rest =>
                        clear HC40
                        try clear c1
                        try clear c2
                        try clear p2
                        try clear c3
                        try clear p3
                        try clear q3
                        try clear hx3
                        try clear c4
                        try clear c5
                        try clear c6
                        try clear p6
                        try clear c8
                        try clear c10
                        try clear c11
                        try clear c11b0
                        try clear c11b1
                        try clear c19
                        try clear c23
                        try clear c24
                        try clear c24b0
                        try clear c24b1
                        try clear c25
                        try clear c25b0
                        try clear c25b1
                        try clear p30
                        try clear q30
                        try clear hx30
                        try clear p31
                        try clear q31
                        try clear hx31
                        try clear c36
                        try clear c37
                        try clear c37b0
                        try clear c38
                        try clear c38b0
                        try clear c39
                        try clear c39b0
                        try clear c41
                        try clear c44
                        try clear c45
                        try clear c48
                        try clear c48b0
                        try clear c48b1
                        try clear c49
                        try clear c49b0
                        try clear c49b1
                        try clear c51
                        try clear c51b0
                        try clear c52
                        try clear c52b0
                        try clear hcz14_0
                        try clear hcz14_1
                        try clear hcz16_0
                        try clear hcz16_1
                        try clear hcz20_0
                        try clear hcz20_1
                        try clear hcz42_0
                        try clear hcz42_1
                        try clear hcz46_0
                        try clear hcz46_1
                        try clear hcz46_2
                        try clear hcz46_3
                        try clear hcz47_0
                        try clear hcz47_1
                        try clear hcz8_0
                        try clear hcz8_1
                        try clear hfz14_0
                        try clear hfz14_1
                        try clear hfz16_0
                        try clear hfz16_1
                        try clear hfz20_0
                        try clear hfz20_1
                        try clear hfz42_0
                        try clear hfz42_1
                        try clear hfz46_0
                        try clear hfz46_1
                        try clear hfz46_2
                        try clear hfz46_3
                        try clear hfz47_0
                        try clear hfz47_1
                        try clear hfz8_0
                        try clear hfz8_1
                        try clear hx309_0
                        try clear hx309_1
                        try clear hx309_2
                        try clear hx309_3
                        try clear hx311_0
                        try clear p2
                        try clear p309
                        try clear p311
                        try clear p6
                        try clear q309
                        try clear q311
                        obtain ⟨kq, x119_39, rfl, HA, HJ39, HO_300001, BK291, BK299, BK310, HB⟩ := hcut
                        cases kq with
                        | zero => exact absurd HA.out (by simp [watchmanlaw21_PostKeeps.j2])
                        | succ kj39 =>
                          have H := HA.out
                          clear HA
                          simp only [watchmanlaw21_PostKeeps.j2] at H
                          by_cases c55 : x119_39 = true
                          · subst c55
                            have H1 : (none) = some r := by rw [if_pos rfl] at H; exact H
                            clear H
                            have H := H1
                            clear H1
                            exact absurd H (by simp)
                          · replace c55 := Bool.eq_false_iff.mpr c55
                            subst c55
                            have H1 : (watchmanlaw21_PostKeeps.l0 kj39 a1 a2 l3 (wrap64 (x12_2 + 1)) a0_0 l0_1 t293 t294) = some r := by rw [if_neg (show ¬ (false = true) by decide)] at H; exact H
                            clear H
                            have H := H1
                            clear H1
                            have H' := Aside0.mk H
                            clear H
                            go_wp2
                            go_roundg kj39
                            case measure => have := HJ11.out; have := HK2.out; have := HJ39.out; omega
                            case rel => exact ⟨(wrap64 (x12_2 + 1)), (by first | rfl | (simp; done) | (simp [*]; done)), H', ⟨by have := HJ11.out; have := HK2.out; have := HJ39.out; omega⟩, ⟨by (with_reducible repeat (first | apply Kd.R_alloc | apply Kd.R_drewN | apply Kd.R_drew)); exact Kd.R_mono HO_300001.out (fun _ hk => trivial)⟩, ⟨by (with_reducible repeat (first | refine blk_drewN ?_ _ | refine blk_drew ?_ | refine blk_alloc ?_ _)); exact BK291.out⟩, ⟨by (with_reducible repeat (first | refine blk_drewN ?_ _ | refine blk_drew ?_ | refine blk_alloc ?_ _)); exact BK299.out⟩, ⟨by repeat (with_reducible first | exact HB.out | apply pw_below_drewN | apply below_drew1 | refine below_set ?_ GE291.out | refine below_set ?_ GE299.out | refine below_set ?_ GE310.out)⟩⟩
                    · rw [if_neg c39] at H
                      have c39b0 : decide (a0_0 ≤ ((rd_T35 t294 x12_2).f0)) = false := decide_eq_false c39
                      clear c39
                      have H' := Aside0.mk H
                      clear H
                      have hnb56 := NB299_291.out
                      have hnc56 := NB291_299.out
                      have hcz57_0 : wr.cell? ⟨gb299, 0, none⟩ = some (.int .i64 t293) := (blk_cell BK299.out 0).trans rfl
                      have hcz57_1 : wr.cell? ⟨gb299, 1, none⟩ = some (.slice Ao21 t294.length co21) := (blk_cell BK299.out 1).trans rfl
                      have hfz57_0 := blk_frozen BK299.out 0
                      have hfz57_1 := blk_frozen BK299.out 1
                      have p309 : 0 ≤ (x12_2 : Int) := of_decide_eq_true (by first | (with_reducible assumption) | assumption)
                      have q309 : x12_2 < (t294.length : Int) := of_decide_eq_true (by first | (with_reducible assumption) | assumption)
                      obtain ⟨ad309, e309, hx309_0, hx309_1, hx309_2, hx309_3⟩ := at_T35 (Kd.R_reads' HO_300001.out).2.2 x12_2 p309 q309
                      cases e309
                      replace p309 := eq_true p309
                      replace q309 := eq_true q309
                      go_wp2_with (first | ((with_reducible refine gate_dst (N := 13) rfl ?_); (try (refine gate_guard (by rfl) ?_; dsimp only)); refine box_event ?hg (N := 13) ?hd (cs := #[.int .i64 0, .int .i64 0, .int .i64 0, .string (⟨#[]⟩ : ByteArray)]) (t := 35) ?hr ?_; (case hd => rfl); (case hg => rfl); (case hr => first | (go_simp; done) | (go_simp; rfl)); intro gb310 hg w58 hbox hb; have n0_ := Aside0.mk (Kd.R_below (Kd.R_elderB (HO_300001.out) gb310 (Nat.le_of_eq hg.symm)) hb); have n1_ := Aside0.mk (blk_below BK291.out hb); have n2_ := Aside0.mk (blk_below BK299.out hb); have n3_ := Aside0.mk (below_step (by repeat (with_reducible first | exact HB.out | apply pw_below_drewN | apply below_drew1 | refine below_set ?_ GE291.out | refine below_set ?_ GE299.out)) hb); have n4_ := Aside0.mk (hbox); have n5_ := Aside0.mk ((by rw [hg]; exact (below_size (by repeat (with_reducible first | exact HB.out | apply pw_below_drewN | apply below_drew1 | refine below_set ?_ GE291.out | refine below_set ?_ GE299.out))) : w.heap.size ≤ gb310)); have n6_ := Aside0.mk ((by rw [hg]; exact (below_size (by repeat (with_reducible first | exact HB.out | apply pw_below_drewN | apply below_drew1 | refine below_set ?_ GE291.out | refine below_set ?_ GE299.out))) : w.heap.size ≤ gb310)); have n7_ := Aside0.mk ((by rw [hg]; exact Nat.ne_of_lt (blk_lt BK291.out) : gb291 ≠ gb310)); have n8_ := Aside0.mk ((by rw [hg]; exact Nat.ne_of_gt (blk_lt BK291.out) : gb310 ≠ gb291)); have n9_ := Aside0.mk ((by rw [hg]; exact Nat.ne_of_lt (blk_lt BK299.out) : gb299 ≠ gb310)); have n10_ := Aside0.mk ((by rw [hg]; exact Nat.ne_of_gt (blk_lt BK299.out) : gb310 ≠ gb299)); clear HO_300001; clear BK291; clear BK299; clear HB; have HO_300001 := n0_; have BK291 := n1_; have BK299 := n2_; have HB := n3_; have BK310 := n4_; have GW310 := n5_; have GE310 := n6_; have NB291_310 := n7_; have NB310_291 := n8_; have NB299_310 := n9_; have NB310_299 := n10_; clear n0_ n1_ n2_ n3_ n4_ n5_ n6_ n7_ n8_ n9_ n10_; clear hb hbox hg; have hnb59 := NB310_291.out; have hnc59 := NB291_310.out; have hnb60 := NB310_299.out; have hnc60 := NB299_310.out; have hcz61_0 : w58.cell? ⟨gb310, 0, none⟩ = some (.int .i64 0) := (blk_cell BK310.out 0).trans rfl; have hcz61_1 : w58.cell? ⟨gb310, 1, none⟩ = some (.int .i64 0) := (blk_cell BK310.out 1).trans rfl; have hcz61_2 : w58.cell? ⟨gb310, 2, none⟩ = some (.int .i64 0) := (blk_cell BK310.out 2).trans rfl; have hcz61_3 : w58.cell? ⟨gb310, 3, none⟩ = some (.string (⟨#[]⟩ : ByteArray)) := (blk_cell BK310.out 3).trans rfl; have hfz61_0 := blk_frozen BK310.out 0; have hfz61_1 := blk_frozen BK310.out 1; have hfz61_2 := blk_frozen BK310.out 2; have hfz61_3 := blk_frozen BK310.out 3; have hcz62_0 : w58.cell? ⟨gb291, 0, none⟩ = some (.int .i64 a0_0) := (blk_cell BK291.out 0).trans rfl; have hcz62_1 : w58.cell? ⟨gb291, 1, none⟩ = some (.slice A0_1 l0_1.length c0_1) := (blk_cell BK291.out 1).trans rfl; have hfz62_0 := blk_frozen BK291.out 0; have hfz62_1 := blk_frozen BK291.out 1))
                      go_loopg [14, 15] k2 (fun kq v14 v15 w' => ∃ (x14_3 : Bool) (x15_3 : Int), v14 = .bool x14_3 ∧ v15 = .int .i64 x15_3 ∧ Aside0 (watchmanlaw21_PostKeeps.l1 kq a1 a2 l3 x12_2 x14_3 x15_3 a0_0 l0_1 t293 t294 ((rd_T35 t294 x12_2).f0) ((rd_T35 t294 x12_2).f1) ((rd_T35 t294 x12_2).f2) ((rd_T35 t294 x12_2).f3) = some r) ∧ Aside0 (kq ≤ k2) ∧ Aside0 (Kd.R k35 35 w' w.heap.size (fun k_ => k_ ≠ gb310) (.slice (some ad309) t294.length co21) t294) ∧ Aside0 (w'.heap[gb291]? = some (.cells #[.int .i64 a0_0, (.slice A0_1 l0_1.length c0_1)] 24 (0, 0))) ∧ Aside0 (w'.heap[gb299]? = some (.cells #[.int .i64 t293, (.slice (some ad309) t294.length co21)] 24 (0, 0))) ∧ Aside0 (w'.heap[gb310]? = some (.cells #[.int .i64 ((rd_T35 t294 x12_2).f0), .int .i64 ((rd_T35 t294 x12_2).f1), .int .i64 ((rd_T35 t294 x12_2).f2), .string ((rd_T35 t294 x12_2).f3)] 35 (0, 0))) ∧ Aside0 (Below w.heap.size w w'))
                      case atStart => exact ⟨(false), (0), (by first | rfl | (simp; done) | (simp [*]; done)), (by first | rfl | (simp; done) | (simp [*]; done)), H', ⟨Nat.le_refl _⟩, ⟨by (with_reducible repeat (first | apply Kd.R_alloc | apply Kd.R_drewN | apply Kd.R_drew)); exact Kd.R_mono (Kd.R_far (p := ⟨gb310, 3, none⟩) (Kd.R_far (p := ⟨gb310, 2, none⟩) (Kd.R_far (p := ⟨gb310, 1, none⟩) (Kd.R_far (p := ⟨gb310, 0, none⟩) (Kd.R_mono HO_300001.out (fun k_ hk => (⟨hk, hk.2⟩ : _ ∧ k_ ≠ gb310))) (fun _ hk => hk.2) (.int .i64 ((rd_T35 t294 x12_2).f0))) (fun _ hk => hk.2) (.int .i64 ((rd_T35 t294 x12_2).f1))) (fun _ hk => hk.2) (.int .i64 ((rd_T35 t294 x12_2).f2))) (fun _ hk => hk.2) (.string ((rd_T35 t294 x12_2).f3))) (fun _ hk => hk.1.2)⟩, ⟨by (with_reducible repeat (first | refine blk_drewN ?_ _ | refine blk_drew ?_ | refine blk_alloc ?_ _)); refine blk_far ?_ NB291_310.out _; (with_reducible repeat (first | refine blk_drewN ?_ _ | refine blk_drew ?_ | refine blk_alloc ?_ _)); refine blk_far ?_ NB291_310.out _; (with_reducible repeat (first | refine blk_drewN ?_ _ | refine blk_drew ?_ | refine blk_alloc ?_ _)); refine blk_far ?_ NB291_310.out _; (with_reducible repeat (first | refine blk_drewN ?_ _ | refine blk_drew ?_ | refine blk_alloc ?_ _)); refine blk_far ?_ NB291_310.out _; (with_reducible repeat (first | refine blk_drewN ?_ _ | refine blk_drew ?_ | refine blk_alloc ?_ _)); exact BK291.out⟩, ⟨by (with_reducible repeat (first | refine blk_drewN ?_ _ | refine blk_drew ?_ | refine blk_alloc ?_ _)); refine blk_far ?_ NB299_310.out _; (with_reducible repeat (first | refine blk_drewN ?_ _ | refine blk_drew ?_ | refine blk_alloc ?_ _)); refine blk_far ?_ NB299_310.out _; (with_reducible repeat (first | refine blk_drewN ?_ _ | refine blk_drew ?_ | refine blk_alloc ?_ _)); refine blk_far ?_ NB299_310.out _; (with_reducible repeat (first | refine blk_drewN ?_ _ | refine blk_drew ?_ | refine blk_alloc ?_ _)); refine blk_far ?_ NB299_310.out _; (with_reducible repeat (first | refine blk_drewN ?_ _ | refine blk_drew ?_ | refine blk_alloc ?_ _)); exact BK299.out⟩, ⟨by (with_reducible repeat (first | refine blk_drewN ?_ _ | refine blk_drew ?_ | refine blk_alloc ?_ _)); refine blk_put (cs := #[.int .i64 ((rd_T35 t294 x12_2).f0), .int .i64 ((rd_T35 t294 x12_2).f1), .int .i64 ((rd_T35 t294 x12_2).f2), .string (⟨#[]⟩ : ByteArray)]) ?_ 3 _ rfl; (with_reducible repeat (first | refine blk_drewN ?_ _ | refine blk_drew ?_ | refine blk_alloc ?_ _)); refine blk_put (cs := #[.int .i64 ((rd_T35 t294 x12_2).f0), .int .i64 ((rd_T35 t294 x12_2).f1), .int .i64 0, .string (⟨#[]⟩ : ByteArray)]) ?_ 2 _ rfl; (with_reducible repeat (first | refine blk_drewN ?_ _ | refine blk_drew ?_ | refine blk_alloc ?_ _)); refine blk_put (cs := #[.int .i64 ((rd_T35 t294 x12_2).f0), .int .i64 0, .int .i64 0, .string (⟨#[]⟩ : ByteArray)]) ?_ 1 _ rfl; (with_reducible repeat (first | refine blk_drewN ?_ _ | refine blk_drew ?_ | refine blk_alloc ?_ _)); refine blk_put (cs := #[.int .i64 0, .int .i64 0, .int .i64 0, .string (⟨#[]⟩ : ByteArray)]) ?_ 0 _ rfl; (with_reducible repeat (first | refine blk_drewN ?_ _ | refine blk_drew ?_ | refine blk_alloc ?_ _)); exact BK310.out⟩, ⟨by repeat (with_reducible first | exact HB.out | apply pw_below_drewN | apply below_drew1 | refine below_set ?_ GE291.out | refine below_set ?_ GE299.out | refine below_set ?_ GE310.out)⟩⟩
                      case round =>
                        clear H'
                        try clear c1
                        try clear c2
                        try clear p2
                        try clear c3
                        try clear p3
                        try clear q3
                        try clear hx3
                        try clear c4
                        try clear c5
                        try clear c6
                        try clear p6
                        try clear c8
                        try clear c10
                        try clear c11
                        try clear c11b0
                        try clear c11b1
                        try clear c19
                        try clear c23
                        try clear c24
                        try clear c24b0
                        try clear c24b1
                        try clear c25
                        try clear c25b0
                        try clear c25b1
                        try clear p30
                        try clear q30
                        try clear hx30
                        try clear p31
                        try clear q31
                        try clear hx31
                        try clear c36
                        try clear c37
                        try clear c37b0
                        try clear c38
                        try clear c38b0
                        try clear c39
                        try clear c39b0
                        try clear c41
                        try clear c44
                        try clear c45
                        try clear c48
                        try clear c48b0
                        try clear c48b1
                        try clear c49
                        try clear c49b0
                        try clear c49b1
                        try clear c51
                        try clear c51b0
                        try clear c52
                        try clear c52b0
                        try clear c55
                        try clear c56
                        try clear c59
                        try clear c60
                        try clear hcz14_0
                        try clear hcz14_1
                        try clear hcz16_0
                        try clear hcz16_1
                        try clear hcz20_0
                        try clear hcz20_1
                        try clear hcz42_0
                        try clear hcz42_1
                        try clear hcz46_0
                        try clear hcz46_1
                        try clear hcz46_2
                        try clear hcz46_3
                        try clear hcz47_0
                        try clear hcz47_1
                        try clear hcz57_0
                        try clear hcz57_1
                        try clear hcz61_0
                        try clear hcz61_1
                        try clear hcz61_2
                        try clear hcz61_3
                        try clear hcz62_0
                        try clear hcz62_1
                        try clear hcz8_0
                        try clear hcz8_1
                        try clear hfz14_0
                        try clear hfz14_1
                        try clear hfz16_0
                        try clear hfz16_1
                        try clear hfz20_0
                        try clear hfz20_1
                        try clear hfz42_0
                        try clear hfz42_1
                        try clear hfz46_0
                        try clear hfz46_1
                        try clear hfz46_2
                        try clear hfz46_3
                        try clear hfz47_0
                        try clear hfz47_1
                        try clear hfz57_0
                        try clear hfz57_1
                        try clear hfz61_0
                        try clear hfz61_1
                        try clear hfz61_2
                        try clear hfz61_3
                        try clear hfz62_0
                        try clear hfz62_1
                        try clear hfz8_0
                        try clear hfz8_1
                        try clear hx309_0
                        try clear hx309_1
                        try clear hx309_2
                        try clear hx309_3
                        try clear hx311_0
                        try clear p2
                        try clear p3
                        try clear p30
                        try clear p309
                        try clear p31
                        try clear p311
                        try clear p6
                        try clear q3
                        try clear q30
                        try clear q309
                        try clear q31
                        try clear q311
                        obtain ⟨x14_3, x15_3, rfl, rfl, HA, HK3, HO_300001, BK291, BK299, BK310, HB⟩ := hrel
                        cases gk with
                        | zero => exact absurd HA.out (by simp [watchmanlaw21_PostKeeps.l1])
                        | succ k3 =>
                          have H := HA.out
                          clear HA
                          simp only [watchmanlaw21_PostKeeps.l1] at H
                          by_cases c63 : x15_3 < (l0_1.length : Int)
                          · rw [if_pos c63] at H
                            have c63b0 : decide (x15_3 < (l0_1.length : Int)) = true := decide_eq_true c63
                            clear c63
                            by_cases c64 : x14_3 = true
                            · subst c64
                              have H1 : (watchmanlaw21_PostKeeps.l1 k3 a1 a2 l3 x12_2 true (wrap64 (x15_3 + 1)) a0_0 l0_1 t293 t294 ((rd_T35 t294 x12_2).f0) ((rd_T35 t294 x12_2).f1) ((rd_T35 t294 x12_2).f2) ((rd_T35 t294 x12_2).f3)) = some r := by rw [if_pos rfl] at H; exact H
                              clear H
                              have H := H1
                              clear H1
                              have H' := Aside0.mk H
                              clear H
                              have hnb65 := NB291_299.out
                              have hnc65 := NB299_291.out
                              have hnb66 := NB291_310.out
                              have hnc66 := NB310_291.out
                              have hcz67_0 : wr.cell? ⟨gb291, 0, none⟩ = some (.int .i64 a0_0) := (blk_cell BK291.out 0).trans rfl
                              have hcz67_1 : wr.cell? ⟨gb291, 1, none⟩ = some (.slice A0_1 l0_1.length c0_1) := (blk_cell BK291.out 1).trans rfl
                              have hfz67_0 := blk_frozen BK291.out 0
                              have hfz67_1 := blk_frozen BK291.out 1
                              try go_wp2
                              have n0_ := Aside0.mk (Kd.R_drew HO_300001.out)
                              have n1_ := Aside0.mk (blk_drew BK291.out)
                              have n2_ := Aside0.mk (blk_drew BK299.out)
                              have n3_ := Aside0.mk (blk_drew BK310.out)
                              have n4_ := Aside0.mk (below_drew1 HB.out)
                              clear HO_300001
                              clear BK291
                              clear BK299
                              clear BK310
                              clear HB
                              have HO_300001 := n0_
                              have BK291 := n1_
                              have BK299 := n2_
                              have BK310 := n3_
                              have HB := n4_
                              clear n0_ n1_ n2_ n3_ n4_
                              refine start_ (n := 11) (S := fun w' => True) (ds := []) #[false, false, false, false, false, false, false, false, false, false, false] (by kernel_rfl) rfl rfl trivial (fun hHeld => ?_); refine with_tabW watchmanlaw21_PostKeeps.tab19 watchmanlaw21_PostKeeps.bits19 (fun HT_ HW_ => ?_)
                              generalize wr.drew = w68 at HO_300001 BK291 BK299 BK310 HB hHeld ⊢
                              refine pure_ (i := 0) (N := some 127) (v := ?_) (a' := ?_) (dn_ 1 11) rfl rfl (any_of HT_.out (by kernel_rfl)) (fun _ _ _ h => h) (Or.inl ⟨by rfl, ?_⟩) ?_ ?_
                              rotate_left
                              · intro w'
                                go_simp
                                with_reducible rfl
                              rotate_left; (simp only [Act.put, List.setIfInBounds_toArray, List.set_cons_zero, List.set_cons_succ, i64_w, i32_w]; rfl)
                              refine pure_ (i := 1) (N := some 128) (v := ?_) (a' := ?_) (dn_ 2 11) rfl rfl (any_of HT_.out (by kernel_rfl)) (fun _ _ _ h => h) (Or.inl ⟨by rfl, ?_⟩) ?_ ?_
                              rotate_left
                              · intro w'
                                go_simp
                                with_reducible rfl
                              rotate_left; (simp only [Act.put, List.setIfInBounds_toArray, List.set_cons_zero, List.set_cons_succ, i64_w, i32_w]; rfl)
                              refine pure_ (i := 2) (N := some 129) (v := undef) (a' := ?_) (dn_ 3 11) rfl rfl (any_of HT_.out (by kernel_rfl)) (fun _ _ _ h => h) (Or.inr ⟨by rfl, rfl⟩) ?_ ?_
                              rotate_left; (simp only [Act.put, List.setIfInBounds_toArray, List.set_cons_zero, List.set_cons_succ, i64_w, i32_w]; rfl)
                              refine pure_ (i := 3) (N := some 130) (v := undef) (a' := ?_) (dn_ 4 11) rfl rfl (any_of HT_.out (by kernel_rfl)) (fun _ _ _ h => h) (Or.inr ⟨by rfl, rfl⟩) ?_ ?_
                              rotate_left; (simp only [Act.put, List.setIfInBounds_toArray, List.set_cons_zero, List.set_cons_succ, i64_w, i32_w]; rfl)
                              refine pure_ (i := 4) (N := some 131) (v := undef) (a' := ?_) (dn_ 5 11) rfl rfl (any_of HT_.out (by kernel_rfl)) (fun _ _ _ h => h) (Or.inr ⟨by rfl, rfl⟩) ?_ ?_
                              rotate_left; (simp only [Act.put, List.setIfInBounds_toArray, List.set_cons_zero, List.set_cons_succ, i64_w, i32_w]; rfl)
                              refine pure_ (i := 5) (N := some 132) (v := undef) (a' := ?_) (dn_ 6 11) rfl rfl (any_of HT_.out (by kernel_rfl)) (fun _ _ _ h => h) (Or.inr ⟨by rfl, rfl⟩) ?_ ?_
                              rotate_left; (simp only [Act.put, List.setIfInBounds_toArray, List.set_cons_zero, List.set_cons_succ, i64_w, i32_w]; rfl)
                              refine pure_ (i := 6) (N := some 133) (v := undef) (a' := ?_) (dn_ 7 11) rfl rfl (any_of HT_.out (by kernel_rfl)) (fun _ _ _ h => h) (Or.inr ⟨by rfl, rfl⟩) ?_ ?_
                              rotate_left; (simp only [Act.put, List.setIfInBounds_toArray, List.set_cons_zero, List.set_cons_succ, i64_w, i32_w]; rfl)
                              refine pure_ (i := 7) (N := some 134) (v := undef) (a' := ?_) (dn_ 8 11) rfl rfl (any_of HT_.out (by kernel_rfl)) (fun _ _ _ h => h) (Or.inr ⟨by rfl, rfl⟩) ?_ ?_
                              rotate_left; (simp only [Act.put, List.setIfInBounds_toArray, List.set_cons_zero, List.set_cons_succ, i64_w, i32_w]; rfl)
                              refine pure_ (i := 8) (N := some 135) (v := undef) (a' := ?_) (dn_ 9 11) rfl rfl (any_of HT_.out (by kernel_rfl)) (fun _ _ _ h => h) (Or.inr ⟨by rfl, rfl⟩) ?_ ?_
                              rotate_left; (simp only [Act.put, List.setIfInBounds_toArray, List.set_cons_zero, List.set_cons_succ, i64_w, i32_w]; rfl)
                              refine pure_ (i := 9) (N := some 136) (v := ?_) (a' := ?_) (dn_ 10 11) rfl rfl (any_of HT_.out (by kernel_rfl)) (fun _ _ _ h => h) (Or.inl ⟨by rfl, ?_⟩) ?_ ?_
                              rotate_left
                              · intro w'
                                go_simp
                                with_reducible rfl
                              rotate_left; (simp only [Act.put, List.setIfInBounds_toArray, List.set_cons_zero, List.set_cons_succ, i64_w, i32_w]; rfl)
                              refine pure_ (i := 10) (N := some 14) (v := ?_) (a' := ?_) #[true, true, true, true, true, true, true, true, true, true, true] rfl rfl (any_of HT_.out (by kernel_rfl)) (fun _ _ _ h => h) (Or.inl ⟨by rfl, ?_⟩) ?_ ?_
                              rotate_left
                              · intro w'
                                go_simp
                                with_reducible rfl
                              rotate_left; (simp only [Act.put, List.setIfInBounds_toArray, List.set_cons_zero, List.set_cons_succ, i64_w, i32_w]; rfl)
                              refine done_ (done_of HT_.out (by kernel_rfl)) ?_
                              try go_wp2
                              go_roundg k3
                              case measure => have := HJ11.out; have := HK2.out; have := HK3.out; omega
                              case rel => exact ⟨(true), (wrap64 (x15_3 + 1)), (by first | rfl | (simp; done) | (simp [*]; done)), (by first | rfl | (simp; done) | (simp [*]; done)), H', ⟨by have := HJ11.out; have := HK2.out; have := HK3.out; omega⟩, ⟨by (with_reducible repeat (first | apply Kd.R_alloc | apply Kd.R_drewN | apply Kd.R_drew)); exact HO_300001.out⟩, ⟨by (with_reducible repeat (first | refine blk_drewN ?_ _ | refine blk_drew ?_ | refine blk_alloc ?_ _)); exact BK291.out⟩, ⟨by (with_reducible repeat (first | refine blk_drewN ?_ _ | refine blk_drew ?_ | refine blk_alloc ?_ _)); exact BK299.out⟩, ⟨by (with_reducible repeat (first | refine blk_drewN ?_ _ | refine blk_drew ?_ | refine blk_alloc ?_ _)); exact BK310.out⟩, ⟨by repeat (with_reducible first | exact HB.out | apply pw_below_drewN | apply below_drew1 | refine below_set ?_ GE291.out | refine below_set ?_ GE299.out | refine below_set ?_ GE310.out)⟩⟩
                            · replace c64 := Bool.eq_false_iff.mpr c64
                              subst c64
                              have H1 : (if 0 ≤ x15_3 then (watchmanlaw21_PostKeeps.l1 k3 a1 a2 l3 x12_2 (((rd_T35 l0_1 x15_3).f0) == ((rd_T35 t294 x12_2).f0) && (((rd_T35 l0_1 x15_3).f1) == ((rd_T35 t294 x12_2).f1) && (((rd_T35 l0_1 x15_3).f2) == ((rd_T35 t294 x12_2).f2) && ((((rd_T35 l0_1 x15_3).f3).toList) == ((rd_T35 t294 x12_2).f3).toList)))) (wrap64 (x15_3 + 1)) a0_0 l0_1 t293 t294 ((rd_T35 t294 x12_2).f0) ((rd_T35 t294 x12_2).f1) ((rd_T35 t294 x12_2).f2) ((rd_T35 t294 x12_2).f3)) else (none)) = some r := by rw [if_neg (show ¬ (false = true) by decide)] at H; exact H
                              clear H
                              have H := H1
                              clear H1
                              by_cases c69 : 0 ≤ x15_3
                              · rw [if_pos c69] at H
                                have c69b0 : decide (0 ≤ x15_3) = true := decide_eq_true c69
                                clear c69
                                have H' := Aside0.mk H
                                clear H
                                have hnb70 := NB291_299.out
                                have hnc70 := NB299_291.out
                                have hnb71 := NB291_310.out
                                have hnc71 := NB310_291.out
                                have hcz72_0 : wr.cell? ⟨gb291, 0, none⟩ = some (.int .i64 a0_0) := (blk_cell BK291.out 0).trans rfl
                                have hcz72_1 : wr.cell? ⟨gb291, 1, none⟩ = some (.slice A0_1 l0_1.length c0_1) := (blk_cell BK291.out 1).trans rfl
                                have hfz72_0 := blk_frozen BK291.out 0
                                have hfz72_1 := blk_frozen BK291.out 1
                                try go_wp2
                                have n0_ := Aside0.mk (Kd.R_drew HO_300001.out)
                                have n1_ := Aside0.mk (blk_drew BK291.out)
                                have n2_ := Aside0.mk (blk_drew BK299.out)
                                have n3_ := Aside0.mk (blk_drew BK310.out)
                                have n4_ := Aside0.mk (below_drew1 HB.out)
                                clear HO_300001
                                clear BK291
                                clear BK299
                                clear BK310
                                clear HB
                                have HO_300001 := n0_
                                have BK291 := n1_
                                have BK299 := n2_
                                have BK310 := n3_
                                have HB := n4_
                                clear n0_ n1_ n2_ n3_ n4_
                                have p312 : 0 ≤ (x15_3 : Int) := of_decide_eq_true (by first | (with_reducible assumption) | assumption)
                                have q312 : x15_3 < (l0_1.length : Int) := of_decide_eq_true (by first | (with_reducible assumption) | assumption)
                                obtain ⟨ad312, e312, hx312_0, hx312_1, hx312_2, hx312_3⟩ := at_T35 HR0_1.out x15_3 p312 q312
                                have hw312_3 := hx312_3
                                have hw312_2 := hx312_2
                                have hw312_1 := hx312_1
                                have hw312_0 := hx312_0
                                cases e312
                                replace hx312_0 := (HB.out.cell (World.block_lt_of_cell? w _ hx312_0)).trans hx312_0
                                replace hx312_1 := (HB.out.cell (World.block_lt_of_cell? w _ hx312_1)).trans hx312_1
                                replace hx312_2 := (HB.out.cell (World.block_lt_of_cell? w _ hx312_2)).trans hx312_2
                                replace hx312_3 := (HB.out.cell (World.block_lt_of_cell? w _ hx312_3)).trans hx312_3
                                replace p312 := eq_true p312
                                replace q312 := eq_true q312
                                refine start_ (n := 11) (S := fun w' => w'.cell? ⟨gb291, 0, none⟩ = some (.int .i64 a0_0) ∧ w'.cell? ⟨gb291, 1, none⟩ = some (.slice (some ad312) l0_1.length c0_1) ∧ w'.cell? ⟨gb310, 0, none⟩ = some (.int .i64 ((rd_T35 t294 x12_2).f0)) ∧ w'.cell? ⟨gb310, 1, none⟩ = some (.int .i64 ((rd_T35 t294 x12_2).f1)) ∧ w'.cell? ⟨gb310, 2, none⟩ = some (.int .i64 ((rd_T35 t294 x12_2).f2)) ∧ w'.cell? ⟨gb310, 3, none⟩ = some (.string ((rd_T35 t294 x12_2).f3)) ∧ w'.cell? (ad312.add ((x15_3).toNat * 4)) = some (.int .i64 ((rd_T35 l0_1 x15_3).f0)) ∧ w'.cell? ⟨(ad312.add ((x15_3).toNat * 4)).block, (ad312.add ((x15_3).toNat * 4)).off + 1, none⟩ = some (.int .i64 ((rd_T35 l0_1 x15_3).f1)) ∧ w'.cell? ⟨(ad312.add ((x15_3).toNat * 4)).block, (ad312.add ((x15_3).toNat * 4)).off + 2, none⟩ = some (.int .i64 ((rd_T35 l0_1 x15_3).f2)) ∧ w'.cell? ⟨(ad312.add ((x15_3).toNat * 4)).block, (ad312.add ((x15_3).toNat * 4)).off + 3, none⟩ = some (.string ((rd_T35 l0_1 x15_3).f3))) (ds := []) #[false, false, false, false, false, false, false, false, false, false, false] (by kernel_rfl) rfl rfl ⟨(blk_cell BK291.out 0).trans rfl, (blk_cell BK291.out 1).trans rfl, (blk_cell BK310.out 0).trans rfl, (blk_cell BK310.out 1).trans rfl, (blk_cell BK310.out 2).trans rfl, (blk_cell BK310.out 3).trans rfl, ((HB.out.cell (World.block_lt_of_cell? w _ hw312_0)).trans hw312_0), ((HB.out.cell (World.block_lt_of_cell? w _ hw312_1)).trans hw312_1), ((HB.out.cell (World.block_lt_of_cell? w _ hw312_2)).trans hw312_2), ((HB.out.cell (World.block_lt_of_cell? w _ hw312_3)).trans hw312_3)⟩ (fun hHeld => ?_); refine with_tabW watchmanlaw21_PostKeeps.tab19 watchmanlaw21_PostKeeps.bits19 (fun HT_ HW_ => ?_)
                                generalize wr.drew = w73 at HO_300001 BK291 BK299 BK310 HB hx312_0 hx312_1 hx312_2 hx312_3 hHeld ⊢
                                refine pure_ (i := 0) (N := some 127) (v := ?_) (a' := ?_) (dn_ 1 11) rfl rfl (any_of HT_.out (by kernel_rfl)) (fun _ _ _ h => h) (Or.inl ⟨by rfl, ?_⟩) ?_ ?_
                                rotate_left
                                · intro w'
                                  go_simp
                                  with_reducible rfl
                                rotate_left; (simp only [Act.put, List.setIfInBounds_toArray, List.set_cons_zero, List.set_cons_succ, i64_w, i32_w]; rfl)
                                refine pure_ (i := 1) (N := some 128) (v := ?_) (a' := ?_) (dn_ 2 11) rfl rfl (any_of HT_.out (by kernel_rfl)) (fun _ _ _ h => h) (Or.inl ⟨by rfl, ?_⟩) ?_ ?_
                                rotate_left
                                · intro w'
                                  go_simp
                                  with_reducible rfl
                                rotate_left; (simp only [Act.put, List.setIfInBounds_toArray, List.set_cons_zero, List.set_cons_succ, i64_w, i32_w]; rfl)
                                refine pure_ (i := 2) (N := some 129) (v := ?_) (a' := ?_) (dn_ 3 11) rfl rfl (any_of HT_.out (by kernel_rfl)) (fun _ _ _ h => h) (Or.inl ⟨by rfl, ?_⟩) ?_ ?_
                                rotate_left
                                · intro w'
                                  go_simp
                                  with_reducible rfl
                                rotate_left; (simp only [Act.put, List.setIfInBounds_toArray, List.set_cons_zero, List.set_cons_succ, i64_w, i32_w]; rfl)
                                refine pure_ (i := 4) (N := some 131) (v := ?_) (a' := ?_) #[true, true, true, false, true, false, false, false, false, false, false] rfl rfl (any_of HT_.out (by kernel_rfl)) (fun _ _ _ h => h) (Or.inl ⟨by rfl, ?_⟩) ?_ ?_
                                rotate_left
                                · intro w'
                                  go_simp
                                  with_reducible rfl
                                rotate_left; (simp only [Act.put, List.setIfInBounds_toArray, List.set_cons_zero, List.set_cons_succ, i64_w, i32_w]; rfl)
                                refine take_ (i := 3) (N := some 130) (v := ?_) (a' := ?_) (dn_ 5 11) rfl rfl (take_ofW HT_.out HW_.out (by kernel_rfl)) (fun _ _ _ h => h) (Or.inl ⟨by rfl, ?_⟩) hHeld ?_ ?_
                                rotate_left
                                · rintro w' ⟨s0, s1, s2, s3, s4, s5, s6, s7, s8, s9⟩
                                  go_simp
                                  with_reducible rfl
                                rotate_left; (simp only [Act.put, List.setIfInBounds_toArray, List.set_cons_zero, List.set_cons_succ, i64_w, i32_w]; rfl)
                                refine pure_ (i := 5) (N := some 132) (v := ?_) (a' := ?_) (dn_ 6 11) rfl rfl (any_of HT_.out (by kernel_rfl)) (fun _ _ _ h => h) (Or.inl ⟨by rfl, ?_⟩) ?_ ?_
                                rotate_left
                                · intro w'
                                  go_simp
                                  with_reducible rfl
                                rotate_left; (simp only [Act.put, List.setIfInBounds_toArray, List.set_cons_zero, List.set_cons_succ, i64_w, i32_w]; rfl)
                                refine take_ (i := 6) (N := some 133) (v := ?_) (a' := ?_) (dn_ 7 11) rfl rfl (take_ofW HT_.out HW_.out (by kernel_rfl)) (fun _ _ _ h => h) (Or.inl ⟨by rfl, ?_⟩) hHeld ?_ ?_
                                rotate_left
                                · rintro w' ⟨s0, s1, s2, s3, s4, s5, s6, s7, s8, s9⟩
                                  go_simp
                                  with_reducible rfl
                                rotate_left; (simp only [Act.put, List.setIfInBounds_toArray, List.set_cons_zero, List.set_cons_succ, i64_w, i32_w]; rfl)
                                refine take_ (i := 7) (N := some 134) (v := ?_) (a' := ?_) (dn_ 8 11) rfl rfl (take_ofW HT_.out HW_.out (by kernel_rfl)) (fun _ _ _ h => h) (Or.inl ⟨by rfl, ?_⟩) hHeld ?_ ?_
                                rotate_left
                                · rintro w' ⟨s0, s1, s2, s3, s4, s5, s6, s7, s8, s9⟩
                                  go_simp
                                  with_reducible rfl
                                rotate_left; (simp only [Act.put, List.setIfInBounds_toArray, List.set_cons_zero, List.set_cons_succ, i64_w, i32_w]; rfl)
                                refine pure_ (i := 8) (N := some 135) (v := ?_) (a' := ?_) (dn_ 9 11) rfl rfl (any_of HT_.out (by kernel_rfl)) (fun _ _ _ h => h) (Or.inl ⟨by rfl, ?_⟩) ?_ ?_
                                rotate_left
                                · intro w'
                                  go_simp
                                  with_reducible rfl
                                rotate_left; (simp only [Act.put, List.setIfInBounds_toArray, List.set_cons_zero, List.set_cons_succ, i64_w, i32_w]; rfl)
                                refine pure_ (i := 9) (N := some 136) (v := ?_) (a' := ?_) (dn_ 10 11) rfl rfl (any_of HT_.out (by kernel_rfl)) (fun _ _ _ h => h) (Or.inl ⟨by rfl, ?_⟩) ?_ ?_
                                rotate_left
                                · intro w'
                                  go_simp
                                  with_reducible rfl
                                rotate_left; (simp only [Act.put, List.setIfInBounds_toArray, List.set_cons_zero, List.set_cons_succ, i64_w, i32_w]; rfl)
                                refine pure_ (i := 10) (N := some 14) (v := ?_) (a' := ?_) #[true, true, true, true, true, true, true, true, true, true, true] rfl rfl (any_of HT_.out (by kernel_rfl)) (fun _ _ _ h => h) (Or.inl ⟨by rfl, ?_⟩) ?_ ?_
                                rotate_left
                                · intro w'
                                  go_simp
                                  with_reducible rfl
                                rotate_left; (simp only [Act.put, List.setIfInBounds_toArray, List.set_cons_zero, List.set_cons_succ, i64_w, i32_w]; rfl)
                                refine done_ (done_of HT_.out (by kernel_rfl)) ?_
                                try go_wp2
                                go_roundg k3
                                case measure => have := HJ11.out; have := HK2.out; have := HK3.out; omega
                                case rel => exact ⟨((((rd_T35 l0_1 x15_3).f0) == ((rd_T35 t294 x12_2).f0) && (((rd_T35 l0_1 x15_3).f1) == ((rd_T35 t294 x12_2).f1) && (((rd_T35 l0_1 x15_3).f2) == ((rd_T35 t294 x12_2).f2) && ((((rd_T35 l0_1 x15_3).f3).toList) == ((rd_T35 t294 x12_2).f3).toList))))), (wrap64 (x15_3 + 1)), (by first | rfl | (simp; done) | (simp [*]; done)), (by first | rfl | (simp; done) | (simp [*]; done)), H', ⟨by have := HJ11.out; have := HK2.out; have := HK3.out; omega⟩, ⟨by (with_reducible repeat (first | apply Kd.R_alloc | apply Kd.R_drewN | apply Kd.R_drew)); exact HO_300001.out⟩, ⟨by (with_reducible repeat (first | refine blk_drewN ?_ _ | refine blk_drew ?_ | refine blk_alloc ?_ _)); exact BK291.out⟩, ⟨by (with_reducible repeat (first | refine blk_drewN ?_ _ | refine blk_drew ?_ | refine blk_alloc ?_ _)); exact BK299.out⟩, ⟨by (with_reducible repeat (first | refine blk_drewN ?_ _ | refine blk_drew ?_ | refine blk_alloc ?_ _)); exact BK310.out⟩, ⟨by repeat (with_reducible first | exact HB.out | apply pw_below_drewN | apply below_drew1 | refine below_set ?_ GE291.out | refine below_set ?_ GE299.out | refine below_set ?_ GE310.out)⟩⟩
                              · rw [if_neg c69] at H
                                exact absurd H (by simp)
                          · rw [if_neg c63] at H
                            have c63b0 : decide (x15_3 < (l0_1.length : Int)) = false := decide_eq_false c63
                            clear c63
                            by_cases c74 : x14_3 = true
                            · subst c74
                              have H1 : (watchmanlaw21_PostKeeps.l0 k3 a1 a2 l3 (wrap64 (x12_2 + 1)) a0_0 l0_1 t293 t294) = some r := by rw [if_pos rfl] at H; exact H
                              clear H
                              have H := H1
                              clear H1
                              have H' := Aside0.mk H
                              clear H
                              have hnb75 := NB291_299.out
                              have hnc75 := NB299_291.out
                              have hnb76 := NB291_310.out
                              have hnc76 := NB310_291.out
                              have hcz77_0 : wr.cell? ⟨gb291, 0, none⟩ = some (.int .i64 a0_0) := (blk_cell BK291.out 0).trans rfl
                              have hcz77_1 : wr.cell? ⟨gb291, 1, none⟩ = some (.slice A0_1 l0_1.length c0_1) := (blk_cell BK291.out 1).trans rfl
                              have hfz77_0 := blk_frozen BK291.out 0
                              have hfz77_1 := blk_frozen BK291.out 1
                              go_wp2
                              go_roundg k3
                              case measure => have := HJ11.out; have := HK2.out; have := HK3.out; omega
                              case rel => exact ⟨(wrap64 (x12_2 + 1)), (by first | rfl | (simp; done) | (simp [*]; done)), H', ⟨by have := HJ11.out; have := HK2.out; have := HK3.out; omega⟩, ⟨by (with_reducible repeat (first | apply Kd.R_alloc | apply Kd.R_drewN | apply Kd.R_drew)); exact Kd.R_mono HO_300001.out (fun _ hk => trivial)⟩, ⟨by (with_reducible repeat (first | refine blk_drewN ?_ _ | refine blk_drew ?_ | refine blk_alloc ?_ _)); exact BK291.out⟩, ⟨by (with_reducible repeat (first | refine blk_drewN ?_ _ | refine blk_drew ?_ | refine blk_alloc ?_ _)); exact BK299.out⟩, ⟨by repeat (with_reducible first | exact HB.out | apply pw_below_drewN | apply below_drew1 | refine below_set ?_ GE291.out | refine below_set ?_ GE299.out | refine below_set ?_ GE310.out)⟩⟩
                            · replace c74 := Bool.eq_false_iff.mpr c74
                              subst c74
                              have H1 : (none) = some r := by rw [if_neg (show ¬ (false = true) by decide)] at H; exact H
                              clear H
                              have H := H1
                              clear H1
                              exact absurd H (by simp)
                  · rw [if_neg c38] at H
                    exact absurd H (by simp)
                · rw [if_neg c37] at H
                  have c37b0 : decide (x12_2 < (t294.length : Int)) = false := decide_eq_false c37
                  clear c37
                  replace H := Option.bind_eq_some_iff.mp H
                  obtain ⟨t308, A780, H⟩ := H
                  replace H : (some t308) = some r := H
                  have A78 := Aside0.mk A780
                  clear A780
                  obtain rfl := Option.some.inj H
                  have hnb79 := NB299_291.out
                  have hnc79 := NB291_299.out
                  have hcz80_0 : wr.cell? ⟨gb299, 0, none⟩ = some (.int .i64 t293) := (blk_cell BK299.out 0).trans rfl
                  have hcz80_1 : wr.cell? ⟨gb299, 1, none⟩ = some (.slice Ao21 t294.length co21) := (blk_cell BK299.out 1).trans rfl
                  have hfz80_0 := blk_frozen BK299.out 0
                  have hfz80_1 := blk_frozen BK299.out 1
                  go_wp2_with (first | ((with_reducible refine gate_callee (f := 24) rfl ?_); refine goesL_ (some 139) rfl rfl Try.func24 (by kernel_rfl) rfl #[] rfl (by (try simp only [List.map_toArray, List.map_cons, List.map_nil]); first | done | rfl | (simp only [List.length_drop, List.length_take]; rfl)) ?_; (with_reducible refine (watchmanlaw21_posted.calls k2  t308 _ A78.out).mono ?_); rintro e w81 ⟨rfl, hb⟩; refine ⟨_, rfl, ?_⟩; have n0_ := Aside0.mk (Kd.R_below (HO_300001.out) hb); have n1_ := Aside0.mk (blk_below BK291.out hb); have n2_ := Aside0.mk (blk_below BK299.out hb); have n3_ := Aside0.mk (below_step (by repeat (with_reducible first | exact HB.out | apply pw_below_drewN | apply below_drew1 | refine below_set ?_ GE291.out | refine below_set ?_ GE299.out)) hb); clear HO_300001; clear BK291; clear BK299; clear HB; have HO_300001 := n0_; have BK291 := n1_; have BK299 := n2_; have HB := n3_; clear n0_ n1_ n2_ n3_; (try clear hb); (try clear hb2); (try clear hk); (try clear hi)))
                  go_ret
                  exact ⟨by first | rfl | (simp [errW_none, errW_some] <;> rfl) | (simp [*, errW_none, errW_some] <;> rfl), by repeat (with_reducible first | exact HB.out | apply pw_below_drewN | apply below_drew1 | refine below_set ?_ GE291.out | refine below_set ?_ GE299.out)⟩
    · rw [if_neg c11] at H
      have c11b0 : (t298 == 0) = false := beq_eq_false_iff_ne.mpr c11
      have c11b1 : (t298 != 0) = true := bne_iff_ne.mpr c11
      replace H := Option.bind_eq_some_iff.mp H
      obtain ⟨t300, A820, H⟩ := H
      replace H : (if t300 = true then (if t297 = 0 then (some ((t294.length : Int) == 0)) else (none)) else (none)) = some r := H
      have A82 := Aside0.mk A820
      clear A820
      by_cases c83 : t300 = true
      · subst c83
        have H1 : (if t297 = 0 then (some ((t294.length : Int) == 0)) else (none)) = some r := by rw [if_pos rfl] at H; exact H
        clear H
        have H := H1
        clear H1
        by_cases c84 : t297 = 0
        · rw [if_pos c84] at H
          have c84b0 : (t297 == 0) = true := beq_iff_eq.mpr c84
          have c84b1 : (t297 != 0) = false := bne_eq_false_iff_eq.mpr c84
          clear c84
          obtain rfl := Option.some.inj H
          go_enter Try.func4, Try.ntmps4
          go_wp2_with (first | ((with_reducible refine gate_dst (N := 4) rfl ?_); (try (refine gate_guard (by rfl) ?_; dsimp only)); refine box_event ?hg (N := 4) ?hd (cs := #[.int .i64 a0_0, .slice A0_1 l0_1.length c0_1]) (t := 24) ?hr ?_; (case hd => rfl); (case hg => rfl); (case hr => first | (go_simp; done) | (go_simp; rfl)); intro gb291 hg w85 hbox hb; have n0_ := Aside0.mk (below_step HB.out hb); have n1_ := Aside0.mk (hbox); have n2_ := Aside0.mk ((by rw [hg]; exact (below_size HB.out) : w.heap.size ≤ gb291)); have n3_ := Aside0.mk ((by rw [hg]; exact (below_size HB.out) : w.heap.size ≤ gb291)); clear HB; have HB := n0_; have BK291 := n1_; have GW291 := n2_; have GE291 := n3_; clear n0_ n1_ n2_ n3_; clear hb hbox hg; have hcz86_0 : w85.cell? ⟨gb291, 0, none⟩ = some (.int .i64 a0_0) := (blk_cell BK291.out 0).trans rfl; have hcz86_1 : w85.cell? ⟨gb291, 1, none⟩ = some (.slice A0_1 l0_1.length c0_1) := (blk_cell BK291.out 1).trans rfl; have hfz86_0 := blk_frozen BK291.out 0; have hfz86_1 := blk_frozen BK291.out 1) | ((with_reducible refine gate_callee (f := 8) rfl ?_); refine goesL_ (some 18) rfl rfl Try.func8 (by kernel_rfl) rfl #[.agg #[.int .i64 a0_0, .slice A0_1 l0_1.length c0_1], .slice A3 l3.length c3] rfl (by (try simp only [List.map_toArray, List.map_cons, List.map_nil]); first | done | rfl | (simp only [List.length_drop, List.length_take]; rfl)) ?_; (with_reducible refine (watchmanlaw21_far.calls k a0_0 _ _ l0_1 _ _ l3 false _ ?side1 ?side2 ?side3 ?side4 A5.out).mono ?_); (case side1 => exact (Kd.C_below HR0_1.out HB.out)); (case side2 => exact HC0_1.out); (case side3 => exact (Kd.C_below HR3.out HB.out)); (case side4 => exact HC3.out); rintro e w87 ⟨rfl, hb⟩; refine ⟨_, rfl, ?_⟩; have n0_ := Aside0.mk (blk_below BK291.out hb); have n1_ := Aside0.mk (below_step (by repeat (with_reducible first | exact HB.out | apply pw_below_drewN | apply below_drew1 | refine below_set ?_ GE291.out)) hb); clear BK291; clear HB; have BK291 := n0_; have HB := n1_; clear n0_ n1_; (try clear hb); (try clear hb2); (try clear hk); (try clear hi); have hcz88_0 : w87.cell? ⟨gb291, 0, none⟩ = some (.int .i64 a0_0) := (blk_cell BK291.out 0).trans rfl; have hcz88_1 : w87.cell? ⟨gb291, 1, none⟩ = some (.slice A0_1 l0_1.length c0_1) := (blk_cell BK291.out 1).trans rfl; have hfz88_0 := blk_frozen BK291.out 0; have hfz88_1 := blk_frozen BK291.out 1) | ((with_reducible refine gate_callee (f := 10) rfl ?_); refine goesL_ (some 24) rfl rfl Try.func10 (by kernel_rfl) rfl #[.agg #[.int .i64 a0_0, .slice A0_1 l0_1.length c0_1], .int .i64 a1, .int .i64 a2, .slice A3 l3.length c3] rfl (by (try simp only [List.map_toArray, List.map_cons, List.map_nil]); first | done | rfl | (simp only [List.length_drop, List.length_take]; rfl)) ?_; (with_reducible refine (post_Send.calls k a0_0 _ _ l0_1 a1 a2 _ _ l3 t293 t294 t297 t298 _ ?side1 ?side2 ?side3 ?side4 A10.out).mono ?_); (case side1 => exact (Kd.C_below HR0_1.out HB.out)); (case side2 => exact HC0_1.out); (case side3 => exact (Kd.C_below HR3.out HB.out)); (case side4 => exact HC3.out); rintro e w89 ⟨v295, rfl, ho0, hb⟩; refine ⟨_, rfl, ?_⟩; have n0_ := Aside0.mk (Kd.R_lower ho0 (below_size (by repeat (with_reducible first | exact HB.out | apply pw_below_drewN | apply below_drew1 | refine below_set ?_ GE291.out)))); have n1_ := Aside0.mk (blk_below BK291.out hb); have n2_ := Aside0.mk (below_step (by repeat (with_reducible first | exact HB.out | apply pw_below_drewN | apply below_drew1 | refine below_set ?_ GE291.out)) hb); clear BK291; clear HB; have HO296 := n0_; have BK291 := n1_; have HB := n2_; clear n0_ n1_ n2_; (try clear hb); (try clear hb2); (try clear hk); (try clear hi); (try clear ho0)) | ((with_reducible refine gate_dst (N := 9) rfl ?_); (try (refine gate_guard (by rfl) ?_; dsimp only)); refine box_event ?hg (N := 9) ?hd (cs := #[.int .i64 0, .slice none 0 0]) (t := 24) ?hr ?_; (case hd => rfl); (case hg => rfl); (case hr => first | (go_simp; done) | (go_simp; rfl)); intro gb299 hg w90 hbox hb; have n0_ := Aside0.mk (Kd.R_below (HO296.out) hb); have n1_ := Aside0.mk (blk_below BK291.out hb); have n2_ := Aside0.mk (below_step (by repeat (with_reducible first | exact HB.out | apply pw_below_drewN | apply below_drew1 | refine below_set ?_ GE291.out)) hb); have n3_ := Aside0.mk (hbox); have n4_ := Aside0.mk ((by rw [hg]; exact (below_size (by repeat (with_reducible first | exact HB.out | apply pw_below_drewN | apply below_drew1 | refine below_set ?_ GE291.out))) : w.heap.size ≤ gb299)); have n5_ := Aside0.mk ((by rw [hg]; exact (below_size (by repeat (with_reducible first | exact HB.out | apply pw_below_drewN | apply below_drew1 | refine below_set ?_ GE291.out))) : w.heap.size ≤ gb299)); have n6_ := Aside0.mk ((by rw [hg]; exact Nat.ne_of_lt (blk_lt BK291.out) : gb291 ≠ gb299)); have n7_ := Aside0.mk ((by rw [hg]; exact Nat.ne_of_gt (blk_lt BK291.out) : gb299 ≠ gb291)); clear HO296; clear BK291; clear HB; have HO296 := n0_; have BK291 := n1_; have HB := n2_; have BK299 := n3_; have GW299 := n4_; have GE299 := n5_; have NB291_299 := n6_; have NB299_291 := n7_; clear n0_ n1_ n2_ n3_ n4_ n5_ n6_ n7_; clear hb hbox hg; have hnb91 := NB299_291.out; have hnc91 := NB291_299.out; have hcz92_0 : w90.cell? ⟨gb299, 0, none⟩ = some (.int .i64 0) := (blk_cell BK299.out 0).trans rfl; have hcz92_1 : w90.cell? ⟨gb299, 1, none⟩ = some (.slice none 0 0) := (blk_cell BK299.out 1).trans rfl; have hfz92_0 := blk_frozen BK299.out 0; have hfz92_1 := blk_frozen BK299.out 1; obtain ⟨Ao93, co93, eo93⟩ := Kd.R_slice HO296.out; subst eo93) | ((with_reducible refine gate_callee (f := 24) rfl ?_); refine goesL_ (some 30) rfl rfl Try.func24 (by kernel_rfl) rfl #[] rfl (by (try simp only [List.map_toArray, List.map_cons, List.map_nil]); first | done | rfl | (simp only [List.length_drop, List.length_take]; rfl)) ?_; (with_reducible refine (watchmanlaw21_posted.calls k  true _ A82.out).mono ?_); rintro e w94 ⟨rfl, hb⟩; refine ⟨_, rfl, ?_⟩; have n0_ := Aside0.mk (Kd.R_below (by (with_reducible repeat (first | apply Kd.R_alloc | apply Kd.R_drewN | apply Kd.R_drew)); exact (Kd.R_mono (Kd.R_far (p := ⟨gb299, 1, none⟩) (Kd.R_far (p := ⟨gb299, 0, none⟩) (Kd.R_types HO296.out BK299.out (by decide)) (fun _ hk => hk.2) (.int .i64 t293)) (fun _ hk => hk.2) (.slice Ao93 t294.length co93)) (fun _ h_ => h_.1))) hb); have n1_ := Aside0.mk (blk_below (g := gb291) (o := .cells #[.int .i64 a0_0, .slice A0_1 l0_1.length c0_1] 24 (0, 0)) (by refine blk_far ?_ NB291_299.out _; refine blk_far ?_ NB291_299.out _; exact BK291.out) hb); have n2_ := Aside0.mk (blk_below (g := gb299) (o := .cells #[.int .i64 t293, .slice Ao93 t294.length co93] 24 (0, 0)) (by refine blk_put (cs := #[.int .i64 t293, .slice none 0 0]) ?_ 1 _ rfl; refine blk_put (cs := #[.int .i64 0, .slice none 0 0]) ?_ 0 _ rfl; exact BK299.out) hb); have n3_ := Aside0.mk (below_step (by repeat (with_reducible first | exact HB.out | apply pw_below_drewN | apply below_drew1 | refine below_set ?_ GE291.out | refine below_set ?_ GE299.out)) hb); clear HO296; clear BK291; clear BK299; clear HB; have HO296 := n0_; have BK291 := n1_; have BK299 := n2_; have HB := n3_; clear n0_ n1_ n2_ n3_; (try clear hb); (try clear hb2); (try clear hk); (try clear hi); have hcz95_0 : w94.cell? ⟨gb299, 0, none⟩ = some (.int .i64 t293) := (blk_cell BK299.out 0).trans rfl; have hcz95_1 : w94.cell? ⟨gb299, 1, none⟩ = some (.slice Ao93 t294.length co93) := (blk_cell BK299.out 1).trans rfl; have hfz95_0 := blk_frozen BK299.out 0; have hfz95_1 := blk_frozen BK299.out 1))
          go_ret
          exact ⟨by first | rfl | (simp [errW_none, errW_some] <;> rfl) | (simp [*, errW_none, errW_some] <;> rfl), by repeat (with_reducible first | exact HB.out | apply pw_below_drewN | apply below_drew1 | refine below_set ?_ GE291.out | refine below_set ?_ GE299.out)⟩
        · rw [if_neg c84] at H
          exact absurd H (by simp)
      · replace c83 := Bool.eq_false_iff.mpr c83
        subst c83
        have H1 : (none) = some r := by rw [if_neg (show ¬ (false = true) by decide)] at H; exact H
        clear H
        have H := H1
        clear H1
        exact absurd H (by simp)

end Go.Proofs.Ytofbkpdpgmjllaa.F
