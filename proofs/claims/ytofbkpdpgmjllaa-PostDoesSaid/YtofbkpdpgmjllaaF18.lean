-- Written by a program of this session (xprint.py), out of the translation and of contracts proved by hand.
import Derived.Test.YtofbkpdpgmjllaaF0
import Derived.Test.YtofbkpdpgmjllaaF1
import Derived.Test.YtofbkpdpgmjllaaF3
import Derived.Test.YtofbkpdpgmjllaaF4
import Derived.Test.YtofbkpdpgmjllaaF7
import Derived.Test.YtofbkpdpgmjllaaF8
import Derived.Test.YtofbkpdpgmjllaaF10
import Derived.Test.YtofbkpdpgmjllaaF11
import Derived.Test.YtofbkpdpgmjllaaF12
import Derived.Test.YtofbkpdpgmjllaaF13
import Derived.Test.YtofbkpdpgmjllaaF14
import Derived.Test.YtofbkpdpgmjllaaF15
import Derived.Test.YtofbkpdpgmjllaaF16
import Derived.Test.YtofbkpdpgmjllaaF17
namespace Go.Proofs.Ytofbkpdpgmjllaa.F
open Go.RowKit Go.Proofs.YtofbkpdpgmjllaaV.PrintWords Go.Proofs.YtofbkpdpgmjllaaV.PrintLast Go.Proofs.YtofbkpdpgmjllaaV.PrintMore
attribute [local go_sem] max2_int min2_int max_two min_two max_three min_three max_four min_four   -- for this text's walks alone
set_option linter.unusedVariables false
set_option linter.unusedSimpArgs false

attribute [local go_sem high] eqA35
/-! ### watchmanlaw21_PostDoes: function 3 -/
mutual
def watchmanlaw21_PostDoes.j0 : Nat → Int → Int → Int → List ByteArray → List Int → Bool → Int → List (S35) → Option (Bool)
  | 0, _, _, _, _, _, _, _, _ => none
  | k + 1, x1, x2, x3, x4, x5, x45, x301000, x301001 => if x45 = true then (some true) else ((watchmanref21_Own.f x301001).bind fun t302 => ((post_Send.f k x301000 x301001 x1 x2 x4).bind fun bt306 => ((watchmanref01_OwnTexts.f x4).bind fun t313 => ((watchmanref21_Send.f k x301000 t302 x1 x2 t313).bind fun bt316 => ((post_Take.f k x301000 x301001 x3).bind fun bt323 => ((watchmanref21_Take.f k x301000 t302 x3).bind fun bt334 => ((post_Again.f k x301000 x301001 x3).bind fun bt345 => ((watchmanref21_Again.f k x301000 t302 x3).bind fun bt352 => ((post_Only.f k x301000 x301001 x5).bind fun bt359 => ((watchmanref21_Only.f k x301000 t302 x5).bind fun bt365 => ((post_To.f x301000 x301001 x2).bind fun t371 => ((watchmanref21_Same.f k bt306.1 bt306.2.1 bt316.1 bt316.2.1).bind fun t374 => (if t374 = true then (if bt306.2.2.1 = bt316.2.2.1 then (if bt306.2.2.2 = bt316.2.2.2 then ((watchmanref21_Same.f k bt323.1 bt323.2.1 bt334.1 bt334.2.1).bind fun t375 => (if t375 = true then (if (bt323.2.2.1 == bt334.2.2.1 && (bt323.2.2.2.1 == bt334.2.2.2.1 && (bt323.2.2.2.2.1 == bt334.2.2.2.2.1 && (bt323.2.2.2.2.2.1.toList == bt334.2.2.2.2.2.1.toList)))) = true then (if bt323.2.2.2.2.2.2 = bt334.2.2.2.2.2.2 then ((watchmanref21_Same.f k bt345.1 bt345.2.1 bt352.1 bt352.2.1).bind fun t376 => (if t376 = true then (if bt345.2.2.1 = bt352.2.2.1 then (if bt345.2.2.2 = bt352.2.2.2 then ((watchmanref21_Same.f k bt359.1 bt359.2.1 bt365.1 bt365.2.1).bind fun t377 => (if t377 = true then (if bt359.2.2 = bt365.2.2 then ((watchmanref21_To.f k x301000 t302 x2).bind fun t378 => ((watchmanref21_SameLetters.f k t371 t378).bind fun t381 => (watchmanlaw21_PostDoes.j1 k t371 t381 x301000 x301001 x301000 t302 bt306.1 bt306.2.1 bt323.1 bt323.2.1 bt345.1 bt345.2.1 bt359.1 bt359.2.1))) else (none)) else (none))) else (none)) else (none)) else (none))) else (none)) else (none)) else (none))) else (none)) else (none)) else (none))))))))))))))
def watchmanlaw21_PostDoes.j1 : Nat → List (S35) → Bool → Int → List (S35) → Int → List (S35) → Int → List (S35) → Int → List (S35) → Int → List (S35) → Int → List (S35) → Option (Bool)
  | 0, _, _, _, _, _, _, _, _, _, _, _, _, _, _ => none
  | k + 1, x36, x37, x301000, x301001, x306000, x306001, x313000, x313001, x333000, x333001, x352000, x352001, x365000, x365001 => (watchmanlaw21_smudge.f k x313001).bind fun t382 => ((watchmanlaw21_smudge.f k x333001).bind fun t383 => ((watchmanlaw21_smudge.f k x352001).bind fun t384 => ((watchmanlaw21_smudge.f k x365001).bind fun t385 => ((watchmanlaw21_smudge.f k x36).bind fun t386 => ((watchmanlaw21_posted.f k).bind fun t387 => (if t387 = true then (if x37 = true then ((post_Is.f k x301000 x301001).bind fun t388 => ((watchmanref21_Is.f k x306000 x306001).bind fun t389 => (if (t388 == t389) = true then ((watchmanref21_Same.f k x301000 x301001 x306000 x306001).bind fun t390 => (some t390)) else (none)))) else (none)) else (none)))))))
end
def watchmanlaw21_PostDoes.f (k : Nat) (a0_0 : Int) (l0_1 : List (S35)) (a1 : Int) (a2 : Int) (a3 : Int) (l4 : List ByteArray) (l5 : List Int) : Option (Bool) := (watchmanlaw21_far.f k a0_0 l0_1 l4).bind fun t301 => (if t301 = true then (watchmanlaw21_PostDoes.j0 k a1 a2 a3 l4 l5 true a0_0 l0_1) else (watchmanlaw21_PostDoes.j0 k a1 a2 a3 l4 l5 (decide ((l5.length : Int) > 60)) a0_0 l0_1))
theorem watchmanlaw21_PostDoes.mono_l : ∀ k, (∀ y0 y1 y2 y3 y4 y5 y6 y7, LeO (watchmanlaw21_PostDoes.j0 k y0 y1 y2 y3 y4 y5 y6 y7) (watchmanlaw21_PostDoes.j0 (k + 1) y0 y1 y2 y3 y4 y5 y6 y7)) ∧ (∀ y0 y1 y2 y3 y4 y5 y6 y7 y8 y9 y10 y11 y12 y13, LeO (watchmanlaw21_PostDoes.j1 k y0 y1 y2 y3 y4 y5 y6 y7 y8 y9 y10 y11 y12 y13) (watchmanlaw21_PostDoes.j1 (k + 1) y0 y1 y2 y3 y4 y5 y6 y7 y8 y9 y10 y11 y12 y13))
  | 0 => ⟨fun _ _ _ _ _ _ _ _ r h => by simp [watchmanlaw21_PostDoes.j0] at h, fun _ _ _ _ _ _ _ _ _ _ _ _ _ _ r h => by simp [watchmanlaw21_PostDoes.j1] at h⟩
  | k + 1 => by
    obtain ⟨ih0, ih1⟩ := watchmanlaw21_PostDoes.mono_l k
    refine ⟨?_, ?_⟩
    · intro y0 y1 y2 y3 y4 y5 y6 y7
      unfold watchmanlaw21_PostDoes.j0
      repeat' first
      | (with_reducible exact ih0 _ _ _ _ _ _ _ _)
      | (with_reducible exact ih1 _ _ _ _ _ _ _ _ _ _ _ _ _ _)
      | (with_reducible exact post_Again.mono _ _ _ _)
      | (with_reducible exact post_Is.mono _ _ _)
      | (with_reducible exact post_Only.mono _ _ _ _)
      | (with_reducible exact post_Send.mono _ _ _ _ _ _)
      | (with_reducible exact post_Take.mono _ _ _ _)
      | (with_reducible exact watchmanlaw21_far.mono _ _ _ _)
      | (with_reducible exact watchmanlaw21_posted.mono _)
      | (with_reducible exact watchmanlaw21_smudge.mono _ _)
      | (with_reducible exact watchmanref21_Again.mono _ _ _ _)
      | (with_reducible exact watchmanref21_Is.mono _ _ _)
      | (with_reducible exact watchmanref21_Only.mono _ _ _ _)
      | (with_reducible exact watchmanref21_Same.mono _ _ _ _ _)
      | (with_reducible exact watchmanref21_SameLetters.mono _ _ _)
      | (with_reducible exact watchmanref21_Send.mono _ _ _ _ _ _)
      | (with_reducible exact watchmanref21_Take.mono _ _ _ _)
      | (with_reducible exact watchmanref21_To.mono _ _ _ _)
      | (with_reducible exact LeO.refl _)
      | (with_reducible exact LeO.none _)
      | (with_reducible refine LeO.ite ?_ ?_)
      | (with_reducible refine LeO.bind ?_ (fun _ => ?_))
      | exact ih0 _ _ _ _ _ _ _ _
      | exact ih1 _ _ _ _ _ _ _ _ _ _ _ _ _ _
      | exact post_Again.mono _ _ _ _
      | exact post_Is.mono _ _ _
      | exact post_Only.mono _ _ _ _
      | exact post_Send.mono _ _ _ _ _ _
      | exact post_Take.mono _ _ _ _
      | exact watchmanlaw21_far.mono _ _ _ _
      | exact watchmanlaw21_posted.mono _
      | exact watchmanlaw21_smudge.mono _ _
      | exact watchmanref21_Again.mono _ _ _ _
      | exact watchmanref21_Is.mono _ _ _
      | exact watchmanref21_Only.mono _ _ _ _
      | exact watchmanref21_Same.mono _ _ _ _ _
      | exact watchmanref21_SameLetters.mono _ _ _
      | exact watchmanref21_Send.mono _ _ _ _ _ _
      | exact watchmanref21_Take.mono _ _ _ _
      | exact watchmanref21_To.mono _ _ _ _
      | exact LeO.none _
      | refine LeO.ite ?_ ?_
      | refine LeO.bind ?_ (fun _ => ?_)
    · intro y0 y1 y2 y3 y4 y5 y6 y7 y8 y9 y10 y11 y12 y13
      unfold watchmanlaw21_PostDoes.j1
      repeat' first
      | (with_reducible exact ih0 _ _ _ _ _ _ _ _)
      | (with_reducible exact ih1 _ _ _ _ _ _ _ _ _ _ _ _ _ _)
      | (with_reducible exact post_Again.mono _ _ _ _)
      | (with_reducible exact post_Is.mono _ _ _)
      | (with_reducible exact post_Only.mono _ _ _ _)
      | (with_reducible exact post_Send.mono _ _ _ _ _ _)
      | (with_reducible exact post_Take.mono _ _ _ _)
      | (with_reducible exact watchmanlaw21_far.mono _ _ _ _)
      | (with_reducible exact watchmanlaw21_posted.mono _)
      | (with_reducible exact watchmanlaw21_smudge.mono _ _)
      | (with_reducible exact watchmanref21_Again.mono _ _ _ _)
      | (with_reducible exact watchmanref21_Is.mono _ _ _)
      | (with_reducible exact watchmanref21_Only.mono _ _ _ _)
      | (with_reducible exact watchmanref21_Same.mono _ _ _ _ _)
      | (with_reducible exact watchmanref21_SameLetters.mono _ _ _)
      | (with_reducible exact watchmanref21_Send.mono _ _ _ _ _ _)
      | (with_reducible exact watchmanref21_Take.mono _ _ _ _)
      | (with_reducible exact watchmanref21_To.mono _ _ _ _)
      | (with_reducible exact LeO.refl _)
      | (with_reducible exact LeO.none _)
      | (with_reducible refine LeO.ite ?_ ?_)
      | (with_reducible refine LeO.bind ?_ (fun _ => ?_))
      | exact ih0 _ _ _ _ _ _ _ _
      | exact ih1 _ _ _ _ _ _ _ _ _ _ _ _ _ _
      | exact post_Again.mono _ _ _ _
      | exact post_Is.mono _ _ _
      | exact post_Only.mono _ _ _ _
      | exact post_Send.mono _ _ _ _ _ _
      | exact post_Take.mono _ _ _ _
      | exact watchmanlaw21_far.mono _ _ _ _
      | exact watchmanlaw21_posted.mono _
      | exact watchmanlaw21_smudge.mono _ _
      | exact watchmanref21_Again.mono _ _ _ _
      | exact watchmanref21_Is.mono _ _ _
      | exact watchmanref21_Only.mono _ _ _ _
      | exact watchmanref21_Same.mono _ _ _ _ _
      | exact watchmanref21_SameLetters.mono _ _ _
      | exact watchmanref21_Send.mono _ _ _ _ _ _
      | exact watchmanref21_Take.mono _ _ _ _
      | exact watchmanref21_To.mono _ _ _ _
      | exact LeO.none _
      | refine LeO.ite ?_ ?_
      | refine LeO.bind ?_ (fun _ => ?_)
theorem watchmanlaw21_PostDoes.mono : ∀ a0 a1 a2 a3 a4 a5 a6 k, LeO (watchmanlaw21_PostDoes.f k a0 a1 a2 a3 a4 a5 a6) (watchmanlaw21_PostDoes.f (k + 1) a0 a1 a2 a3 a4 a5 a6) := by
  intro a0 a1 a2 a3 a4 a5 a6 k
  obtain ⟨ih0, ih1⟩ := watchmanlaw21_PostDoes.mono_l k
  unfold watchmanlaw21_PostDoes.f
  repeat' first
      | (with_reducible exact ih0 _ _ _ _ _ _ _ _)
      | (with_reducible exact ih1 _ _ _ _ _ _ _ _ _ _ _ _ _ _)
      | (with_reducible exact post_Again.mono _ _ _ _)
      | (with_reducible exact post_Is.mono _ _ _)
      | (with_reducible exact post_Only.mono _ _ _ _)
      | (with_reducible exact post_Send.mono _ _ _ _ _ _)
      | (with_reducible exact post_Take.mono _ _ _ _)
      | (with_reducible exact watchmanlaw21_far.mono _ _ _ _)
      | (with_reducible exact watchmanlaw21_posted.mono _)
      | (with_reducible exact watchmanlaw21_smudge.mono _ _)
      | (with_reducible exact watchmanref21_Again.mono _ _ _ _)
      | (with_reducible exact watchmanref21_Is.mono _ _ _)
      | (with_reducible exact watchmanref21_Only.mono _ _ _ _)
      | (with_reducible exact watchmanref21_Same.mono _ _ _ _ _)
      | (with_reducible exact watchmanref21_SameLetters.mono _ _ _)
      | (with_reducible exact watchmanref21_Send.mono _ _ _ _ _ _)
      | (with_reducible exact watchmanref21_Take.mono _ _ _ _)
      | (with_reducible exact watchmanref21_To.mono _ _ _ _)
      | (with_reducible exact LeO.refl _)
      | (with_reducible exact LeO.none _)
      | (with_reducible refine LeO.ite ?_ ?_)
      | (with_reducible refine LeO.bind ?_ (fun _ => ?_))
      | exact ih0 _ _ _ _ _ _ _ _
      | exact ih1 _ _ _ _ _ _ _ _ _ _ _ _ _ _
      | exact post_Again.mono _ _ _ _
      | exact post_Is.mono _ _ _
      | exact post_Only.mono _ _ _ _
      | exact post_Send.mono _ _ _ _ _ _
      | exact post_Take.mono _ _ _ _
      | exact watchmanlaw21_far.mono _ _ _ _
      | exact watchmanlaw21_posted.mono _
      | exact watchmanlaw21_smudge.mono _ _
      | exact watchmanref21_Again.mono _ _ _ _
      | exact watchmanref21_Is.mono _ _ _
      | exact watchmanref21_Only.mono _ _ _ _
      | exact watchmanref21_Same.mono _ _ _ _ _
      | exact watchmanref21_SameLetters.mono _ _ _
      | exact watchmanref21_Send.mono _ _ _ _ _ _
      | exact watchmanref21_Take.mono _ _ _ _
      | exact watchmanref21_To.mono _ _ _ _
      | exact LeO.none _
      | refine LeO.ite ?_ ?_
      | refine LeO.bind ?_ (fun _ => ?_)
def watchmanlaw21_PostDoes.T3 : Bool × List (List Nat × List Nat) := (true, [([], []), ([0], [0]), ([], []), ([2], [2]), ([3], [3]), ([1, 4], [1, 4]), ([], []), ([6, 5, 4, 0, 1, 2, 3, 4, 5, 6], [5, 6])])
def watchmanlaw21_PostDoes.B3 : List Nat := [0, 1, 0, 4, 12, 31, 0, 127]
theorem watchmanlaw21_PostDoes.tab3 : rtab .any (opsOf Try.f3 3) = watchmanlaw21_PostDoes.T3 := by kernel_rfl
theorem watchmanlaw21_PostDoes.bits3 : waitsOk watchmanlaw21_PostDoes.T3.2 watchmanlaw21_PostDoes.B3 = true := by kernel_rfl
def watchmanlaw21_PostDoes.T5 : Bool × List (List Nat × List Nat) := (true, [([], []), ([], []), ([], []), ([], []), ([3], [3]), ([0, 1, 2, 4, 4], [0, 1, 2, 4]), ([5], [5]), ([6], [6]), ([6], [6]), ([6], [6]), ([], []), ([10, 7, 5, 0, 1, 2, 3, 4, 5, 6, 7, 10], [7, 10]), ([8, 11, 0, 1, 2, 3, 4, 5, 6, 7, 8, 10, 11], [8]), ([9, 12, 0, 1, 2, 3, 4, 5, 6, 7, 8, 9, 10, 11, 12], [9])])
def watchmanlaw21_PostDoes.B5 : List Nat := [0, 0, 0, 0, 8, 31, 63, 127, 127, 127, 0, 1279, 3583, 8191]
theorem watchmanlaw21_PostDoes.tab5 : rtab .any (opsOf Try.f3 5) = watchmanlaw21_PostDoes.T5 := by kernel_rfl
theorem watchmanlaw21_PostDoes.bits5 : waitsOk watchmanlaw21_PostDoes.T5.2 watchmanlaw21_PostDoes.B5 = true := by kernel_rfl
def watchmanlaw21_PostDoes.T19 : Bool × List (List Nat × List Nat) := (true, [([], []), ([0, 0], [0]), ([1], [1]), ([1, 2], [1, 2]), ([3, 1], [3]), ([4], [4]), ([5, 4, 4], [4, 5]), ([4], [4]), ([7, 6, 4], [4, 7]), ([6, 8, 4], [4, 6, 8]), ([4, 9], [4, 9]), ([10, 8], [10]), ([11], [11]), ([11], [11]), ([12, 13, 11, 11], [11, 12, 13]), ([11, 14], [11, 14]), ([15, 14, 0, 1, 2, 3, 4, 5, 6, 7, 8, 9, 10, 11, 12, 13, 14, 15], [15])])
def watchmanlaw21_PostDoes.B19 : List Nat := [0, 1, 3, 7, 15, 31, 63, 31, 255, 511, 1023, 2047, 4095, 4095, 16383, 32767, 65535]
theorem watchmanlaw21_PostDoes.tab19 : rtab .any (opsOf Try.f3 19) = watchmanlaw21_PostDoes.T19 := by kernel_rfl
theorem watchmanlaw21_PostDoes.bits19 : waitsOk watchmanlaw21_PostDoes.T19.2 watchmanlaw21_PostDoes.B19 = true := by kernel_rfl

end Go.Proofs.Ytofbkpdpgmjllaa.F
