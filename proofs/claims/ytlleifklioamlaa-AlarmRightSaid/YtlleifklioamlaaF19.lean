-- Written by a program of this session (xprint.py), out of the translation and of contracts proved by hand.
import Derived.Test.YtlleifklioamlaaF0
import Derived.Test.YtlleifklioamlaaF1
import Derived.Test.YtlleifklioamlaaF3
import Derived.Test.YtlleifklioamlaaF5
import Derived.Test.YtlleifklioamlaaF9
import Derived.Test.YtlleifklioamlaaF10
import Derived.Test.YtlleifklioamlaaF16
namespace Go.Proofs.Ytlleifklioamlaa.F
open Go.RowKit Go.Proofs.YtlleifklioamlaaV.PrintWords Go.Proofs.YtlleifklioamlaaV.PrintLast Go.Proofs.YtlleifklioamlaaV.PrintMore
attribute [local go_sem] max2_int min2_int max_two min_two max_three min_three max_four min_four   -- for this text's walks alone
set_option linter.unusedVariables false
set_option linter.unusedSimpArgs false

attribute [local go_sem high] eqA23
/-! ### watchmanlaw06_AlarmRight: function 7 -/
mutual
def watchmanlaw06_AlarmRight.j0 : Nat → Int → Int → Int → Int → Bool → Int → Int → Int → Int → Int → Int → Int → Int → Int → Int → Int → Int → Int → Int → Int → Int → Int → Int → Option (Bool)
  | 0, _, _, _, _, _, _, _, _, _, _, _, _, _, _, _, _, _, _, _, _, _, _, _ => none
  | k + 1, x2, x4, x16, x18, x59, x424000, x424001, x424002, x424003, x424004, x424005, x440000, x440001, x440002, x440003, x440004, x440005, x448000, x448001, x448002, x448003, x448004, x448005 => if x59 = true then (some false) else (if x16 = 0 then ((alarm_Is.f x440000 x440001 x440002 x440003 x440004 x440005).bind fun t449 => (if t449 = true then (if (!(x440000 == x424000) || (!(x440001 == x424001))) = true then (watchmanlaw06_AlarmRight.j1 k x4 x18 true x424000 x424001 x424002 x424003 x424004 x424005 x448000 x448001 x448002 x448003 x448004 x448005) else (if x440003 > x424003 then (watchmanlaw06_AlarmRight.j1 k x4 x18 true x424000 x424001 x424002 x424003 x424004 x424005 x448000 x448001 x448002 x448003 x448004 x448005) else (if x440003 > x2 then (watchmanlaw06_AlarmRight.j1 k x4 x18 true x424000 x424001 x424002 x424003 x424004 x424005 x448000 x448001 x448002 x448003 x448004 x448005) else (watchmanlaw06_AlarmRight.j1 k x4 x18 (decide (x440004 < x424004)) x424000 x424001 x424002 x424003 x424004 x424005 x448000 x448001 x448002 x448003 x448004 x448005)))) else (watchmanlaw06_AlarmRight.j1 k x4 x18 true x424000 x424001 x424002 x424003 x424004 x424005 x448000 x448001 x448002 x448003 x448004 x448005))) else (watchmanlaw06_AlarmRight.j1 k x4 x18 false x424000 x424001 x424002 x424003 x424004 x424005 x448000 x448001 x448002 x448003 x448004 x448005))
def watchmanlaw06_AlarmRight.j1 : Nat → Int → Int → Bool → Int → Int → Int → Int → Int → Int → Int → Int → Int → Int → Int → Int → Option (Bool)
  | 0, _, _, _, _, _, _, _, _, _, _, _, _, _, _, _ => none
  | k + 1, x4, x18, x93, x424000, x424001, x424002, x424003, x424004, x424005, x448000, x448001, x448002, x448003, x448004, x448005 => if x93 = true then (some false) else ((watchmanlaw06_rung.f k).bind fun t450 => (if t450 = true then (if x18 = 0 then ((alarm_Is.f x448000 x448001 x448002 x448003 x448004 x448005).bind fun t451 => (if t451 = true then (if (x448000 == x424000 && (x448001 == x424001)) = true then (if x448003 = x424003 then (if x448004 = x424004 then (some (decide (x448005 ≥ x4))) else (none)) else (none)) else (none)) else (none))) else (some true)) else (none)))
end
def watchmanlaw06_AlarmRight.f (k : Nat) (a0_0 : Int) (a0_1 : Int) (a1_0 : Int) (a1_1 : Int) (a1_2 : Int) (a1_3 : Int) (a1_4 : Int) (a1_5 : Int) (a2 : Int) (a3 : Int) (a4 : Int) (a5 : Int) : Option (Bool) := (alarm_Open.f a0_0 a0_1 a2 a4).bind fun bt424 => ((alarm_Raise.f k a1_0 a1_1 a1_2 a1_3 a1_4 a1_5 a2 a4).bind fun bt432 => ((alarm_Do.f a1_0 a1_1 a1_2 a1_3 a1_4 a1_5 a3 a4 a5).bind fun bt440 => (if bt424.2.2.2.2.2.2 = 0 then ((alarm_Is.f bt424.1 bt424.2.1 bt424.2.2.1 bt424.2.2.2.1 bt424.2.2.2.2.1 bt424.2.2.2.2.2.1).bind fun t448 => (if t448 = true then (if (!(bt424.1 == a0_0) || (!(bt424.2.1 == a0_1))) = true then (watchmanlaw06_AlarmRight.j0 k a2 a4 bt432.2.2.2.2.2.2 bt440.2.2.2.2.2.2 true a1_0 a1_1 a1_2 a1_3 a1_4 a1_5 bt432.1 bt432.2.1 bt432.2.2.1 bt432.2.2.2.1 bt432.2.2.2.2.1 bt432.2.2.2.2.2.1 bt440.1 bt440.2.1 bt440.2.2.1 bt440.2.2.2.1 bt440.2.2.2.2.1 bt440.2.2.2.2.2.1) else (watchmanlaw06_AlarmRight.j0 k a2 a4 bt432.2.2.2.2.2.2 bt440.2.2.2.2.2.2 (bt424.2.2.2.2.1 != a4) a1_0 a1_1 a1_2 a1_3 a1_4 a1_5 bt432.1 bt432.2.1 bt432.2.2.1 bt432.2.2.2.1 bt432.2.2.2.2.1 bt432.2.2.2.2.2.1 bt440.1 bt440.2.1 bt440.2.2.1 bt440.2.2.2.1 bt440.2.2.2.2.1 bt440.2.2.2.2.2.1)) else (watchmanlaw06_AlarmRight.j0 k a2 a4 bt432.2.2.2.2.2.2 bt440.2.2.2.2.2.2 true a1_0 a1_1 a1_2 a1_3 a1_4 a1_5 bt432.1 bt432.2.1 bt432.2.2.1 bt432.2.2.2.1 bt432.2.2.2.2.1 bt432.2.2.2.2.2.1 bt440.1 bt440.2.1 bt440.2.2.1 bt440.2.2.2.1 bt440.2.2.2.2.1 bt440.2.2.2.2.2.1))) else (watchmanlaw06_AlarmRight.j0 k a2 a4 bt432.2.2.2.2.2.2 bt440.2.2.2.2.2.2 false a1_0 a1_1 a1_2 a1_3 a1_4 a1_5 bt432.1 bt432.2.1 bt432.2.2.1 bt432.2.2.2.1 bt432.2.2.2.2.1 bt432.2.2.2.2.2.1 bt440.1 bt440.2.1 bt440.2.2.1 bt440.2.2.2.1 bt440.2.2.2.2.1 bt440.2.2.2.2.2.1))))
theorem watchmanlaw06_AlarmRight.mono_l : ∀ k, (∀ y0 y1 y2 y3 y4 y5 y6 y7 y8 y9 y10 y11 y12 y13 y14 y15 y16 y17 y18 y19 y20 y21 y22, LeO (watchmanlaw06_AlarmRight.j0 k y0 y1 y2 y3 y4 y5 y6 y7 y8 y9 y10 y11 y12 y13 y14 y15 y16 y17 y18 y19 y20 y21 y22) (watchmanlaw06_AlarmRight.j0 (k + 1) y0 y1 y2 y3 y4 y5 y6 y7 y8 y9 y10 y11 y12 y13 y14 y15 y16 y17 y18 y19 y20 y21 y22)) ∧ (∀ y0 y1 y2 y3 y4 y5 y6 y7 y8 y9 y10 y11 y12 y13 y14, LeO (watchmanlaw06_AlarmRight.j1 k y0 y1 y2 y3 y4 y5 y6 y7 y8 y9 y10 y11 y12 y13 y14) (watchmanlaw06_AlarmRight.j1 (k + 1) y0 y1 y2 y3 y4 y5 y6 y7 y8 y9 y10 y11 y12 y13 y14))
  | 0 => ⟨fun _ _ _ _ _ _ _ _ _ _ _ _ _ _ _ _ _ _ _ _ _ _ _ r h => by simp [watchmanlaw06_AlarmRight.j0] at h, fun _ _ _ _ _ _ _ _ _ _ _ _ _ _ _ r h => by simp [watchmanlaw06_AlarmRight.j1] at h⟩
  | k + 1 => by
    obtain ⟨ih0, ih1⟩ := watchmanlaw06_AlarmRight.mono_l k
    refine ⟨?_, ?_⟩
    · intro y0 y1 y2 y3 y4 y5 y6 y7 y8 y9 y10 y11 y12 y13 y14 y15 y16 y17 y18 y19 y20 y21 y22
      unfold watchmanlaw06_AlarmRight.j0
      repeat' first
      | (with_reducible exact ih0 _ _ _ _ _ _ _ _ _ _ _ _ _ _ _ _ _ _ _ _ _ _ _)
      | (with_reducible exact ih1 _ _ _ _ _ _ _ _ _ _ _ _ _ _ _)
      | (with_reducible exact alarm_Raise.mono _ _ _ _ _ _ _ _ _)
      | (with_reducible exact watchmanlaw06_rung.mono _)
      | (with_reducible exact LeO.refl _)
      | (with_reducible exact LeO.none _)
      | (with_reducible refine LeO.ite ?_ ?_)
      | (with_reducible refine LeO.bind ?_ (fun _ => ?_))
      | exact ih0 _ _ _ _ _ _ _ _ _ _ _ _ _ _ _ _ _ _ _ _ _ _ _
      | exact ih1 _ _ _ _ _ _ _ _ _ _ _ _ _ _ _
      | exact alarm_Raise.mono _ _ _ _ _ _ _ _ _
      | exact watchmanlaw06_rung.mono _
      | exact LeO.none _
      | refine LeO.ite ?_ ?_
      | refine LeO.bind ?_ (fun _ => ?_)
    · intro y0 y1 y2 y3 y4 y5 y6 y7 y8 y9 y10 y11 y12 y13 y14
      unfold watchmanlaw06_AlarmRight.j1
      repeat' first
      | (with_reducible exact ih0 _ _ _ _ _ _ _ _ _ _ _ _ _ _ _ _ _ _ _ _ _ _ _)
      | (with_reducible exact ih1 _ _ _ _ _ _ _ _ _ _ _ _ _ _ _)
      | (with_reducible exact alarm_Raise.mono _ _ _ _ _ _ _ _ _)
      | (with_reducible exact watchmanlaw06_rung.mono _)
      | (with_reducible exact LeO.refl _)
      | (with_reducible exact LeO.none _)
      | (with_reducible refine LeO.ite ?_ ?_)
      | (with_reducible refine LeO.bind ?_ (fun _ => ?_))
      | exact ih0 _ _ _ _ _ _ _ _ _ _ _ _ _ _ _ _ _ _ _ _ _ _ _
      | exact ih1 _ _ _ _ _ _ _ _ _ _ _ _ _ _ _
      | exact alarm_Raise.mono _ _ _ _ _ _ _ _ _
      | exact watchmanlaw06_rung.mono _
      | exact LeO.none _
      | refine LeO.ite ?_ ?_
      | refine LeO.bind ?_ (fun _ => ?_)
theorem watchmanlaw06_AlarmRight.mono : ∀ a0 a1 a2 a3 a4 a5 a6 a7 a8 a9 a10 a11 k, LeO (watchmanlaw06_AlarmRight.f k a0 a1 a2 a3 a4 a5 a6 a7 a8 a9 a10 a11) (watchmanlaw06_AlarmRight.f (k + 1) a0 a1 a2 a3 a4 a5 a6 a7 a8 a9 a10 a11) := by
  intro a0 a1 a2 a3 a4 a5 a6 a7 a8 a9 a10 a11 k
  obtain ⟨ih0, ih1⟩ := watchmanlaw06_AlarmRight.mono_l k
  unfold watchmanlaw06_AlarmRight.f
  repeat' first
      | (with_reducible exact ih0 _ _ _ _ _ _ _ _ _ _ _ _ _ _ _ _ _ _ _ _ _ _ _)
      | (with_reducible exact ih1 _ _ _ _ _ _ _ _ _ _ _ _ _ _ _)
      | (with_reducible exact alarm_Raise.mono _ _ _ _ _ _ _ _ _)
      | (with_reducible exact watchmanlaw06_rung.mono _)
      | (with_reducible exact LeO.refl _)
      | (with_reducible exact LeO.none _)
      | (with_reducible refine LeO.ite ?_ ?_)
      | (with_reducible refine LeO.bind ?_ (fun _ => ?_))
      | exact ih0 _ _ _ _ _ _ _ _ _ _ _ _ _ _ _ _ _ _ _ _ _ _ _
      | exact ih1 _ _ _ _ _ _ _ _ _ _ _ _ _ _ _
      | exact alarm_Raise.mono _ _ _ _ _ _ _ _ _
      | exact watchmanlaw06_rung.mono _
      | exact LeO.none _
      | refine LeO.ite ?_ ?_
      | refine LeO.bind ?_ (fun _ => ?_)
set_option maxHeartbeats 8000000 in
set_option maxRecDepth 100000 in
theorem watchmanlaw06_AlarmRight.calls (k : Nat) (a0_0 : Int) (a0_1 : Int) (a1_0 : Int) (a1_1 : Int) (a1_2 : Int) (a1_3 : Int) (a1_4 : Int) (a1_5 : Int) (a2 : Int) (a3 : Int) (a4 : Int) (a5 : Int) (r : Bool) (w : World) (h : watchmanlaw06_AlarmRight.f k a0_0 a0_1 a1_0 a1_1 a1_2 a1_3 a1_4 a1_5 a2 a3 a4 a5 = some r) :
    Calls Try.prog 7 #[.agg #[.int .i64 a0_0, .int .i64 a0_1], .agg #[.int .i64 a1_0, .int .i64 a1_1, .int .i64 a1_2, .int .i64 a1_3, .int .i64 a1_4, .int .i64 a1_5], .int .i64 a2, .int .i64 a3, .int .i64 a4, .int .i64 a5] w fun e w' => e = .returned (.bool r) ∧ Below w.heap.size w w' := by
  have hu23 := Try.underlying23
  have hu25 := Try.underlying25
  have HB := Aside0.mk (Below.refl w.heap.size w)
  have H : ((alarm_Open.f a0_0 a0_1 a2 a4).bind fun bt424 => ((alarm_Raise.f k a1_0 a1_1 a1_2 a1_3 a1_4 a1_5 a2 a4).bind fun bt432 => ((alarm_Do.f a1_0 a1_1 a1_2 a1_3 a1_4 a1_5 a3 a4 a5).bind fun bt440 => (if bt424.2.2.2.2.2.2 = 0 then ((alarm_Is.f bt424.1 bt424.2.1 bt424.2.2.1 bt424.2.2.2.1 bt424.2.2.2.2.1 bt424.2.2.2.2.2.1).bind fun t448 => (if t448 = true then (if (!(bt424.1 == a0_0) || (!(bt424.2.1 == a0_1))) = true then (watchmanlaw06_AlarmRight.j0 k a2 a4 bt432.2.2.2.2.2.2 bt440.2.2.2.2.2.2 true a1_0 a1_1 a1_2 a1_3 a1_4 a1_5 bt432.1 bt432.2.1 bt432.2.2.1 bt432.2.2.2.1 bt432.2.2.2.2.1 bt432.2.2.2.2.2.1 bt440.1 bt440.2.1 bt440.2.2.1 bt440.2.2.2.1 bt440.2.2.2.2.1 bt440.2.2.2.2.2.1) else (watchmanlaw06_AlarmRight.j0 k a2 a4 bt432.2.2.2.2.2.2 bt440.2.2.2.2.2.2 (bt424.2.2.2.2.1 != a4) a1_0 a1_1 a1_2 a1_3 a1_4 a1_5 bt432.1 bt432.2.1 bt432.2.2.1 bt432.2.2.2.1 bt432.2.2.2.2.1 bt432.2.2.2.2.2.1 bt440.1 bt440.2.1 bt440.2.2.1 bt440.2.2.2.1 bt440.2.2.2.2.1 bt440.2.2.2.2.2.1)) else (watchmanlaw06_AlarmRight.j0 k a2 a4 bt432.2.2.2.2.2.2 bt440.2.2.2.2.2.2 true a1_0 a1_1 a1_2 a1_3 a1_4 a1_5 bt432.1 bt432.2.1 bt432.2.2.1 bt432.2.2.2.1 bt432.2.2.2.2.1 bt432.2.2.2.2.2.1 bt440.1 bt440.2.1 bt440.2.2.1 bt440.2.2.2.1 bt440.2.2.2.2.1 bt440.2.2.2.2.2.1))) else (watchmanlaw06_AlarmRight.j0 k a2 a4 bt432.2.2.2.2.2.2 bt440.2.2.2.2.2.2 false a1_0 a1_1 a1_2 a1_3 a1_4 a1_5 bt432.1 bt432.2.1 bt432.2.2.1 bt432.2.2.2.1 bt432.2.2.2.2.1 bt432.2.2.2.2.2.1 bt440.1 bt440.2.1 bt440.2.2.1 bt440.2.2.2.1 bt440.2.2.2.2.1 bt440.2.2.2.2.2.1))))) = some r := h
  clear h
  replace H := Option.bind_eq_some_iff.mp H
  obtain ⟨⟨t424, t425, t426, t427, t428, t429, t430⟩, A70, H⟩ := H
  replace H : ((alarm_Raise.f k a1_0 a1_1 a1_2 a1_3 a1_4 a1_5 a2 a4).bind fun bt432 => ((alarm_Do.f a1_0 a1_1 a1_2 a1_3 a1_4 a1_5 a3 a4 a5).bind fun bt440 => (if t430 = 0 then ((alarm_Is.f t424 t425 t426 t427 t428 t429).bind fun t448 => (if t448 = true then (if (!(t424 == a0_0) || (!(t425 == a0_1))) = true then (watchmanlaw06_AlarmRight.j0 k a2 a4 bt432.2.2.2.2.2.2 bt440.2.2.2.2.2.2 true a1_0 a1_1 a1_2 a1_3 a1_4 a1_5 bt432.1 bt432.2.1 bt432.2.2.1 bt432.2.2.2.1 bt432.2.2.2.2.1 bt432.2.2.2.2.2.1 bt440.1 bt440.2.1 bt440.2.2.1 bt440.2.2.2.1 bt440.2.2.2.2.1 bt440.2.2.2.2.2.1) else (watchmanlaw06_AlarmRight.j0 k a2 a4 bt432.2.2.2.2.2.2 bt440.2.2.2.2.2.2 (t428 != a4) a1_0 a1_1 a1_2 a1_3 a1_4 a1_5 bt432.1 bt432.2.1 bt432.2.2.1 bt432.2.2.2.1 bt432.2.2.2.2.1 bt432.2.2.2.2.2.1 bt440.1 bt440.2.1 bt440.2.2.1 bt440.2.2.2.1 bt440.2.2.2.2.1 bt440.2.2.2.2.2.1)) else (watchmanlaw06_AlarmRight.j0 k a2 a4 bt432.2.2.2.2.2.2 bt440.2.2.2.2.2.2 true a1_0 a1_1 a1_2 a1_3 a1_4 a1_5 bt432.1 bt432.2.1 bt432.2.2.1 bt432.2.2.2.1 bt432.2.2.2.2.1 bt432.2.2.2.2.2.1 bt440.1 bt440.2.1 bt440.2.2.1 bt440.2.2.2.1 bt440.2.2.2.2.1 bt440.2.2.2.2.2.1))) else (watchmanlaw06_AlarmRight.j0 k a2 a4 bt432.2.2.2.2.2.2 bt440.2.2.2.2.2.2 false a1_0 a1_1 a1_2 a1_3 a1_4 a1_5 bt432.1 bt432.2.1 bt432.2.2.1 bt432.2.2.2.1 bt432.2.2.2.2.1 bt432.2.2.2.2.2.1 bt440.1 bt440.2.1 bt440.2.2.1 bt440.2.2.2.1 bt440.2.2.2.2.1 bt440.2.2.2.2.2.1)))) = some r := H
  have A7 := Aside0.mk A70
  clear A70
  replace H := Option.bind_eq_some_iff.mp H
  obtain ⟨⟨t432, t433, t434, t435, t436, t437, t438⟩, A80, H⟩ := H
  replace H : ((alarm_Do.f a1_0 a1_1 a1_2 a1_3 a1_4 a1_5 a3 a4 a5).bind fun bt440 => (if t430 = 0 then ((alarm_Is.f t424 t425 t426 t427 t428 t429).bind fun t448 => (if t448 = true then (if (!(t424 == a0_0) || (!(t425 == a0_1))) = true then (watchmanlaw06_AlarmRight.j0 k a2 a4 t438 bt440.2.2.2.2.2.2 true a1_0 a1_1 a1_2 a1_3 a1_4 a1_5 t432 t433 t434 t435 t436 t437 bt440.1 bt440.2.1 bt440.2.2.1 bt440.2.2.2.1 bt440.2.2.2.2.1 bt440.2.2.2.2.2.1) else (watchmanlaw06_AlarmRight.j0 k a2 a4 t438 bt440.2.2.2.2.2.2 (t428 != a4) a1_0 a1_1 a1_2 a1_3 a1_4 a1_5 t432 t433 t434 t435 t436 t437 bt440.1 bt440.2.1 bt440.2.2.1 bt440.2.2.2.1 bt440.2.2.2.2.1 bt440.2.2.2.2.2.1)) else (watchmanlaw06_AlarmRight.j0 k a2 a4 t438 bt440.2.2.2.2.2.2 true a1_0 a1_1 a1_2 a1_3 a1_4 a1_5 t432 t433 t434 t435 t436 t437 bt440.1 bt440.2.1 bt440.2.2.1 bt440.2.2.2.1 bt440.2.2.2.2.1 bt440.2.2.2.2.2.1))) else (watchmanlaw06_AlarmRight.j0 k a2 a4 t438 bt440.2.2.2.2.2.2 false a1_0 a1_1 a1_2 a1_3 a1_4 a1_5 t432 t433 t434 t435 t436 t437 bt440.1 bt440.2.1 bt440.2.2.1 bt440.2.2.2.1 bt440.2.2.2.2.1 bt440.2.2.2.2.2.1))) = some r := H
  have A8 := Aside0.mk A80
  clear A80
  replace H := Option.bind_eq_some_iff.mp H
  obtain ⟨⟨t440, t441, t442, t443, t444, t445, t446⟩, A90, H⟩ := H
  replace H : (if t430 = 0 then ((alarm_Is.f t424 t425 t426 t427 t428 t429).bind fun t448 => (if t448 = true then (if (!(t424 == a0_0) || (!(t425 == a0_1))) = true then (watchmanlaw06_AlarmRight.j0 k a2 a4 t438 t446 true a1_0 a1_1 a1_2 a1_3 a1_4 a1_5 t432 t433 t434 t435 t436 t437 t440 t441 t442 t443 t444 t445) else (watchmanlaw06_AlarmRight.j0 k a2 a4 t438 t446 (t428 != a4) a1_0 a1_1 a1_2 a1_3 a1_4 a1_5 t432 t433 t434 t435 t436 t437 t440 t441 t442 t443 t444 t445)) else (watchmanlaw06_AlarmRight.j0 k a2 a4 t438 t446 true a1_0 a1_1 a1_2 a1_3 a1_4 a1_5 t432 t433 t434 t435 t436 t437 t440 t441 t442 t443 t444 t445))) else (watchmanlaw06_AlarmRight.j0 k a2 a4 t438 t446 false a1_0 a1_1 a1_2 a1_3 a1_4 a1_5 t432 t433 t434 t435 t436 t437 t440 t441 t442 t443 t444 t445)) = some r := H
  have A9 := Aside0.mk A90
  clear A90
  have HC10 := Aside0.mk H
  clear H
  go_enter Try.func7, Try.ntmps7
  go_upto_region 4 with (first | ((with_reducible refine gate_dst (N := 6) rfl ?_); refine box_event ?hg (N := 6) ?hd (cs := #[.int .i64 a0_0, .int .i64 a0_1]) (t := 23) ?hr ?_; (case hd => rfl); (case hg => rfl); (case hr => first | (go_simp; done) | (go_simp; rfl)); intro gb422 hg w11 hbox hb; have n0_ := Aside0.mk (below_step (by repeat (first | (with_reducible first | exact HB.out | apply below_alloc | apply pw_below_drewN | apply below_drew1) | exact HB.out)) hb); have n1_ := Aside0.mk (hbox); have n2_ := Aside0.mk ((by rw [hg]; exact (below_size (by repeat (first | (with_reducible first | exact HB.out | apply below_alloc | apply pw_below_drewN | apply below_drew1) | exact HB.out))) : w.heap.size ≤ gb422)); have n3_ := Aside0.mk ((by rw [hg]; exact (below_size (by repeat (first | (with_reducible first | exact HB.out | apply below_alloc | apply pw_below_drewN | apply below_drew1) | exact HB.out))) : w.heap.size ≤ gb422)); clear HB; have HB := n0_; have BK422 := n1_; have GW422 := n2_; have GE422 := n3_; clear n0_ n1_ n2_ n3_; clear hb hbox hg) | ((with_reducible refine gate_dst (N := 7) rfl ?_); refine box_event ?hg (N := 7) ?hd (cs := #[.int .i64 a1_0, .int .i64 a1_1, .int .i64 a1_2, .int .i64 a1_3, .int .i64 a1_4, .int .i64 a1_5]) (t := 25) ?hr ?_; (case hd => rfl); (case hg => rfl); (case hr => first | (go_simp; done) | (go_simp; rfl)); intro gb423 hg w12 hbox hb; have n0_ := Aside0.mk (blk_below (g := gb422) (o := .cells #[.int .i64 a0_0, .int .i64 a0_1] 23 (0, 0)) (by (with_reducible repeat (first | refine blk_drewN ?_ _ | refine blk_drew ?_ | refine blk_alloc ?_ _)); exact BK422.out) hb); have n1_ := Aside0.mk (below_step (by repeat (first | (with_reducible first | exact HB.out | apply below_alloc | apply pw_below_drewN | apply below_drew1 | refine below_set ?_ GE422.out) | exact HB.out)) hb); have n2_ := Aside0.mk (hbox); have n3_ := Aside0.mk ((by rw [hg]; exact (below_size (by repeat (first | (with_reducible first | exact HB.out | apply below_alloc | apply pw_below_drewN | apply below_drew1 | refine below_set ?_ GE422.out) | exact HB.out))) : w.heap.size ≤ gb423)); have n4_ := Aside0.mk ((by rw [hg]; exact (below_size (by repeat (first | (with_reducible first | exact HB.out | apply below_alloc | apply pw_below_drewN | apply below_drew1 | refine below_set ?_ GE422.out) | exact HB.out))) : w.heap.size ≤ gb423)); have n5_ := Aside0.mk ((by rw [hg]; exact Nat.ne_of_lt (blk_lt (g := gb422) (o := .cells #[.int .i64 a0_0, .int .i64 a0_1] 23 (0, 0)) (by (with_reducible repeat (first | refine blk_drewN ?_ _ | refine blk_drew ?_ | refine blk_alloc ?_ _)); exact BK422.out)) : gb422 ≠ gb423)); have n6_ := Aside0.mk ((by rw [hg]; exact Nat.ne_of_gt (blk_lt (g := gb422) (o := .cells #[.int .i64 a0_0, .int .i64 a0_1] 23 (0, 0)) (by (with_reducible repeat (first | refine blk_drewN ?_ _ | refine blk_drew ?_ | refine blk_alloc ?_ _)); exact BK422.out)) : gb423 ≠ gb422)); clear BK422; clear HB; have BK422 := n0_; have HB := n1_; have BK423 := n2_; have GW423 := n3_; have GE423 := n4_; have NB422_423 := n5_; have NB423_422 := n6_; clear n0_ n1_ n2_ n3_ n4_ n5_ n6_; clear hb hbox hg; have hnb13 := NB422_423.out; have hnc13 := NB423_422.out; have hcz14_0 : w12.cell? ⟨gb422, 0, none⟩ = some (.int .i64 a0_0) := (blk_cell BK422.out 0).trans rfl; have hcz14_1 : w12.cell? ⟨gb422, 1, none⟩ = some (.int .i64 a0_1) := (blk_cell BK422.out 1).trans rfl; have hfz14_0 := blk_frozen BK422.out 0; have hfz14_1 := blk_frozen BK422.out 1) | ((with_reducible refine gate_callee (f := 15) rfl ?_); refine goesL_ (some 23) rfl rfl Try.func15 (by kernel_rfl) rfl #[.agg #[.int .i64 a0_0, .int .i64 a0_1], .int .i64 a2, .int .i64 a4] rfl (by (try simp only [List.map_toArray, List.map_cons, List.map_nil]); first | done | rfl | (simp only [List.length_drop, List.length_take]; rfl)) ?_; (with_reducible refine (alarm_Open.calls a0_0 a0_1 a2 a4 t424 t425 t426 t427 t428 t429 t430 _ A7.out).mono ?_); rintro e w15 ⟨rfl, hb⟩; refine ⟨_, rfl, ?_⟩; have n0_ := Aside0.mk (blk_below (g := gb422) (o := .cells #[.int .i64 a0_0, .int .i64 a0_1] 23 (0, 0)) (by (with_reducible repeat (first | refine blk_drewN ?_ _ | refine blk_drew ?_ | refine blk_alloc ?_ _)); exact BK422.out) hb); have n1_ := Aside0.mk (blk_below (g := gb423) (o := .cells #[.int .i64 a1_0, .int .i64 a1_1, .int .i64 a1_2, .int .i64 a1_3, .int .i64 a1_4, .int .i64 a1_5] 25 (0, 0)) (by (with_reducible repeat (first | refine blk_drewN ?_ _ | refine blk_drew ?_ | refine blk_alloc ?_ _)); exact BK423.out) hb); have n2_ := Aside0.mk (below_step (by repeat (first | (with_reducible first | exact HB.out | apply below_alloc | apply pw_below_drewN | apply below_drew1 | refine below_set ?_ GE422.out | refine below_set ?_ GE423.out) | exact HB.out)) hb); clear BK422; clear BK423; clear HB; have BK422 := n0_; have BK423 := n1_; have HB := n2_; clear n0_ n1_ n2_; (try clear hb); (try clear hb2); (try clear hk); (try clear hi)) | ((with_reducible refine gate_dst (N := 13) rfl ?_); refine box_event ?hg (N := 13) ?hd (cs := #[.int .i64 0, .int .i64 0, .int .i64 0, .int .i64 0, .int .i64 0, .int .i64 0]) (t := 25) ?hr ?_; (case hd => rfl); (case hg => rfl); (case hr => first | (go_simp; done) | (go_simp; rfl)); intro gb431 hg w16 hbox hb; have n0_ := Aside0.mk (blk_below (g := gb422) (o := .cells #[.int .i64 a0_0, .int .i64 a0_1] 23 (0, 0)) (by (with_reducible repeat (first | refine blk_drewN ?_ _ | refine blk_drew ?_ | refine blk_alloc ?_ _)); exact BK422.out) hb); have n1_ := Aside0.mk (blk_below (g := gb423) (o := .cells #[.int .i64 a1_0, .int .i64 a1_1, .int .i64 a1_2, .int .i64 a1_3, .int .i64 a1_4, .int .i64 a1_5] 25 (0, 0)) (by (with_reducible repeat (first | refine blk_drewN ?_ _ | refine blk_drew ?_ | refine blk_alloc ?_ _)); exact BK423.out) hb); have n2_ := Aside0.mk (below_step (by repeat (first | (with_reducible first | exact HB.out | apply below_alloc | apply pw_below_drewN | apply below_drew1 | refine below_set ?_ GE422.out | refine below_set ?_ GE423.out) | exact HB.out)) hb); have n3_ := Aside0.mk (hbox); have n4_ := Aside0.mk ((by rw [hg]; exact (below_size (by repeat (first | (with_reducible first | exact HB.out | apply below_alloc | apply pw_below_drewN | apply below_drew1 | refine below_set ?_ GE422.out | refine below_set ?_ GE423.out) | exact HB.out))) : w.heap.size ≤ gb431)); have n5_ := Aside0.mk ((by rw [hg]; exact (below_size (by repeat (first | (with_reducible first | exact HB.out | apply below_alloc | apply pw_below_drewN | apply below_drew1 | refine below_set ?_ GE422.out | refine below_set ?_ GE423.out) | exact HB.out))) : w.heap.size ≤ gb431)); have n6_ := Aside0.mk ((by rw [hg]; exact Nat.ne_of_lt (blk_lt (g := gb422) (o := .cells #[.int .i64 a0_0, .int .i64 a0_1] 23 (0, 0)) (by (with_reducible repeat (first | refine blk_drewN ?_ _ | refine blk_drew ?_ | refine blk_alloc ?_ _)); exact BK422.out)) : gb422 ≠ gb431)); have n7_ := Aside0.mk ((by rw [hg]; exact Nat.ne_of_gt (blk_lt (g := gb422) (o := .cells #[.int .i64 a0_0, .int .i64 a0_1] 23 (0, 0)) (by (with_reducible repeat (first | refine blk_drewN ?_ _ | refine blk_drew ?_ | refine blk_alloc ?_ _)); exact BK422.out)) : gb431 ≠ gb422)); have n8_ := Aside0.mk ((by rw [hg]; exact Nat.ne_of_lt (blk_lt (g := gb423) (o := .cells #[.int .i64 a1_0, .int .i64 a1_1, .int .i64 a1_2, .int .i64 a1_3, .int .i64 a1_4, .int .i64 a1_5] 25 (0, 0)) (by (with_reducible repeat (first | refine blk_drewN ?_ _ | refine blk_drew ?_ | refine blk_alloc ?_ _)); exact BK423.out)) : gb423 ≠ gb431)); have n9_ := Aside0.mk ((by rw [hg]; exact Nat.ne_of_gt (blk_lt (g := gb423) (o := .cells #[.int .i64 a1_0, .int .i64 a1_1, .int .i64 a1_2, .int .i64 a1_3, .int .i64 a1_4, .int .i64 a1_5] 25 (0, 0)) (by (with_reducible repeat (first | refine blk_drewN ?_ _ | refine blk_drew ?_ | refine blk_alloc ?_ _)); exact BK423.out)) : gb431 ≠ gb423)); clear BK422; clear BK423; clear HB; have BK422 := n0_; have BK423 := n1_; have HB := n2_; have BK431 := n3_; have GW431 := n4_; have GE431 := n5_; have NB422_431 := n6_; have NB431_422 := n7_; have NB423_431 := n8_; have NB431_423 := n9_; clear n0_ n1_ n2_ n3_ n4_ n5_ n6_ n7_ n8_ n9_; clear hb hbox hg; have hnb17 := NB431_422.out; have hnc17 := NB422_431.out; have hnb18 := NB431_423.out; have hnc18 := NB423_431.out; have hcz19_0 : w16.cell? ⟨gb431, 0, none⟩ = some (.int .i64 0) := (blk_cell BK431.out 0).trans rfl; have hcz19_1 : w16.cell? ⟨gb431, 1, none⟩ = some (.int .i64 0) := (blk_cell BK431.out 1).trans rfl; have hcz19_2 : w16.cell? ⟨gb431, 2, none⟩ = some (.int .i64 0) := (blk_cell BK431.out 2).trans rfl; have hcz19_3 : w16.cell? ⟨gb431, 3, none⟩ = some (.int .i64 0) := (blk_cell BK431.out 3).trans rfl; have hcz19_4 : w16.cell? ⟨gb431, 4, none⟩ = some (.int .i64 0) := (blk_cell BK431.out 4).trans rfl; have hcz19_5 : w16.cell? ⟨gb431, 5, none⟩ = some (.int .i64 0) := (blk_cell BK431.out 5).trans rfl; have hfz19_0 := blk_frozen BK431.out 0; have hfz19_1 := blk_frozen BK431.out 1; have hfz19_2 := blk_frozen BK431.out 2; have hfz19_3 := blk_frozen BK431.out 3; have hfz19_4 := blk_frozen BK431.out 4; have hfz19_5 := blk_frozen BK431.out 5; have hcz20_0 : w16.cell? ⟨gb423, 0, none⟩ = some (.int .i64 a1_0) := (blk_cell BK423.out 0).trans rfl; have hcz20_1 : w16.cell? ⟨gb423, 1, none⟩ = some (.int .i64 a1_1) := (blk_cell BK423.out 1).trans rfl; have hcz20_2 : w16.cell? ⟨gb423, 2, none⟩ = some (.int .i64 a1_2) := (blk_cell BK423.out 2).trans rfl; have hcz20_3 : w16.cell? ⟨gb423, 3, none⟩ = some (.int .i64 a1_3) := (blk_cell BK423.out 3).trans rfl; have hcz20_4 : w16.cell? ⟨gb423, 4, none⟩ = some (.int .i64 a1_4) := (blk_cell BK423.out 4).trans rfl; have hcz20_5 : w16.cell? ⟨gb423, 5, none⟩ = some (.int .i64 a1_5) := (blk_cell BK423.out 5).trans rfl; have hfz20_0 := blk_frozen BK423.out 0; have hfz20_1 := blk_frozen BK423.out 1; have hfz20_2 := blk_frozen BK423.out 2; have hfz20_3 := blk_frozen BK423.out 3; have hfz20_4 := blk_frozen BK423.out 4; have hfz20_5 := blk_frozen BK423.out 5) | ((with_reducible refine gate_callee (f := 17) rfl ?_); refine goesL_ (some 30) rfl rfl Try.func17 (by kernel_rfl) rfl #[.agg #[.int .i64 a1_0, .int .i64 a1_1, .int .i64 a1_2, .int .i64 a1_3, .int .i64 a1_4, .int .i64 a1_5], .int .i64 a2, .int .i64 a4] rfl (by (try simp only [List.map_toArray, List.map_cons, List.map_nil]); first | done | rfl | (simp only [List.length_drop, List.length_take]; rfl)) ?_; (with_reducible refine (alarm_Raise.calls k a1_0 a1_1 a1_2 a1_3 a1_4 a1_5 a2 a4 t432 t433 t434 t435 t436 t437 t438 _ A8.out).mono ?_); rintro e w21 ⟨rfl, hb⟩; refine ⟨_, rfl, ?_⟩; have n0_ := Aside0.mk (blk_below (g := gb422) (o := .cells #[.int .i64 a0_0, .int .i64 a0_1] 23 (0, 0)) (by (with_reducible repeat (first | refine blk_drewN ?_ _ | refine blk_drew ?_ | refine blk_alloc ?_ _)); refine blk_far ?_ NB422_431.out _; (with_reducible repeat (first | refine blk_drewN ?_ _ | refine blk_drew ?_ | refine blk_alloc ?_ _)); refine blk_far ?_ NB422_431.out _; (with_reducible repeat (first | refine blk_drewN ?_ _ | refine blk_drew ?_ | refine blk_alloc ?_ _)); refine blk_far ?_ NB422_431.out _; (with_reducible repeat (first | refine blk_drewN ?_ _ | refine blk_drew ?_ | refine blk_alloc ?_ _)); refine blk_far ?_ NB422_431.out _; (with_reducible repeat (first | refine blk_drewN ?_ _ | refine blk_drew ?_ | refine blk_alloc ?_ _)); refine blk_far ?_ NB422_431.out _; (with_reducible repeat (first | refine blk_drewN ?_ _ | refine blk_drew ?_ | refine blk_alloc ?_ _)); refine blk_far ?_ NB422_431.out _; (with_reducible repeat (first | refine blk_drewN ?_ _ | refine blk_drew ?_ | refine blk_alloc ?_ _)); exact BK422.out) hb); have n1_ := Aside0.mk (blk_below (g := gb423) (o := .cells #[.int .i64 a1_0, .int .i64 a1_1, .int .i64 a1_2, .int .i64 a1_3, .int .i64 a1_4, .int .i64 a1_5] 25 (0, 0)) (by (with_reducible repeat (first | refine blk_drewN ?_ _ | refine blk_drew ?_ | refine blk_alloc ?_ _)); refine blk_far ?_ NB423_431.out _; (with_reducible repeat (first | refine blk_drewN ?_ _ | refine blk_drew ?_ | refine blk_alloc ?_ _)); refine blk_far ?_ NB423_431.out _; (with_reducible repeat (first | refine blk_drewN ?_ _ | refine blk_drew ?_ | refine blk_alloc ?_ _)); refine blk_far ?_ NB423_431.out _; (with_reducible repeat (first | refine blk_drewN ?_ _ | refine blk_drew ?_ | refine blk_alloc ?_ _)); refine blk_far ?_ NB423_431.out _; (with_reducible repeat (first | refine blk_drewN ?_ _ | refine blk_drew ?_ | refine blk_alloc ?_ _)); refine blk_far ?_ NB423_431.out _; (with_reducible repeat (first | refine blk_drewN ?_ _ | refine blk_drew ?_ | refine blk_alloc ?_ _)); refine blk_far ?_ NB423_431.out _; (with_reducible repeat (first | refine blk_drewN ?_ _ | refine blk_drew ?_ | refine blk_alloc ?_ _)); exact BK423.out) hb); have n2_ := Aside0.mk (blk_below (g := gb431) (o := .cells #[.int .i64 t424, .int .i64 t425, .int .i64 t426, .int .i64 t427, .int .i64 t428, .int .i64 t429] 25 (0, 0)) (by (with_reducible repeat (first | refine blk_drewN ?_ _ | refine blk_drew ?_ | refine blk_alloc ?_ _)); refine blk_put (cs := #[.int .i64 t424, .int .i64 t425, .int .i64 t426, .int .i64 t427, .int .i64 t428, .int .i64 0]) ?_ 5 _ rfl; (with_reducible repeat (first | refine blk_drewN ?_ _ | refine blk_drew ?_ | refine blk_alloc ?_ _)); refine blk_put (cs := #[.int .i64 t424, .int .i64 t425, .int .i64 t426, .int .i64 t427, .int .i64 0, .int .i64 0]) ?_ 4 _ rfl; (with_reducible repeat (first | refine blk_drewN ?_ _ | refine blk_drew ?_ | refine blk_alloc ?_ _)); refine blk_put (cs := #[.int .i64 t424, .int .i64 t425, .int .i64 t426, .int .i64 0, .int .i64 0, .int .i64 0]) ?_ 3 _ rfl; (with_reducible repeat (first | refine blk_drewN ?_ _ | refine blk_drew ?_ | refine blk_alloc ?_ _)); refine blk_put (cs := #[.int .i64 t424, .int .i64 t425, .int .i64 0, .int .i64 0, .int .i64 0, .int .i64 0]) ?_ 2 _ rfl; (with_reducible repeat (first | refine blk_drewN ?_ _ | refine blk_drew ?_ | refine blk_alloc ?_ _)); refine blk_put (cs := #[.int .i64 t424, .int .i64 0, .int .i64 0, .int .i64 0, .int .i64 0, .int .i64 0]) ?_ 1 _ rfl; (with_reducible repeat (first | refine blk_drewN ?_ _ | refine blk_drew ?_ | refine blk_alloc ?_ _)); refine blk_put (cs := #[.int .i64 0, .int .i64 0, .int .i64 0, .int .i64 0, .int .i64 0, .int .i64 0]) ?_ 0 _ rfl; (with_reducible repeat (first | refine blk_drewN ?_ _ | refine blk_drew ?_ | refine blk_alloc ?_ _)); exact BK431.out) hb); have n3_ := Aside0.mk (below_step (by repeat (first | (with_reducible first | exact HB.out | apply below_alloc | apply pw_below_drewN | apply below_drew1 | refine below_set ?_ GE422.out | refine below_set ?_ GE423.out | refine below_set ?_ GE431.out) | exact HB.out)) hb); clear BK422; clear BK423; clear BK431; clear HB; have BK422 := n0_; have BK423 := n1_; have BK431 := n2_; have HB := n3_; clear n0_ n1_ n2_ n3_; (try clear hb); (try clear hb2); (try clear hk); (try clear hi)) | ((with_reducible refine gate_dst (N := 15) rfl ?_); refine box_event ?hg (N := 15) ?hd (cs := #[.int .i64 0, .int .i64 0, .int .i64 0, .int .i64 0, .int .i64 0, .int .i64 0]) (t := 25) ?hr ?_; (case hd => rfl); (case hg => rfl); (case hr => first | (go_simp; done) | (go_simp; rfl)); intro gb439 hg w22 hbox hb; have n0_ := Aside0.mk (blk_below (g := gb422) (o := .cells #[.int .i64 a0_0, .int .i64 a0_1] 23 (0, 0)) (by (with_reducible repeat (first | refine blk_drewN ?_ _ | refine blk_drew ?_ | refine blk_alloc ?_ _)); exact BK422.out) hb); have n1_ := Aside0.mk (blk_below (g := gb423) (o := .cells #[.int .i64 a1_0, .int .i64 a1_1, .int .i64 a1_2, .int .i64 a1_3, .int .i64 a1_4, .int .i64 a1_5] 25 (0, 0)) (by (with_reducible repeat (first | refine blk_drewN ?_ _ | refine blk_drew ?_ | refine blk_alloc ?_ _)); exact BK423.out) hb); have n2_ := Aside0.mk (blk_below (g := gb431) (o := .cells #[.int .i64 t424, .int .i64 t425, .int .i64 t426, .int .i64 t427, .int .i64 t428, .int .i64 t429] 25 (0, 0)) (by (with_reducible repeat (first | refine blk_drewN ?_ _ | refine blk_drew ?_ | refine blk_alloc ?_ _)); exact BK431.out) hb); have n3_ := Aside0.mk (below_step (by repeat (first | (with_reducible first | exact HB.out | apply below_alloc | apply pw_below_drewN | apply below_drew1 | refine below_set ?_ GE422.out | refine below_set ?_ GE423.out | refine below_set ?_ GE431.out) | exact HB.out)) hb); have n4_ := Aside0.mk (hbox); have n5_ := Aside0.mk ((by rw [hg]; exact (below_size (by repeat (first | (with_reducible first | exact HB.out | apply below_alloc | apply pw_below_drewN | apply below_drew1 | refine below_set ?_ GE422.out | refine below_set ?_ GE423.out | refine below_set ?_ GE431.out) | exact HB.out))) : w.heap.size ≤ gb439)); have n6_ := Aside0.mk ((by rw [hg]; exact (below_size (by repeat (first | (with_reducible first | exact HB.out | apply below_alloc | apply pw_below_drewN | apply below_drew1 | refine below_set ?_ GE422.out | refine below_set ?_ GE423.out | refine below_set ?_ GE431.out) | exact HB.out))) : w.heap.size ≤ gb439)); have n7_ := Aside0.mk ((by rw [hg]; exact Nat.ne_of_lt (blk_lt (g := gb422) (o := .cells #[.int .i64 a0_0, .int .i64 a0_1] 23 (0, 0)) (by (with_reducible repeat (first | refine blk_drewN ?_ _ | refine blk_drew ?_ | refine blk_alloc ?_ _)); exact BK422.out)) : gb422 ≠ gb439)); have n8_ := Aside0.mk ((by rw [hg]; exact Nat.ne_of_gt (blk_lt (g := gb422) (o := .cells #[.int .i64 a0_0, .int .i64 a0_1] 23 (0, 0)) (by (with_reducible repeat (first | refine blk_drewN ?_ _ | refine blk_drew ?_ | refine blk_alloc ?_ _)); exact BK422.out)) : gb439 ≠ gb422)); have n9_ := Aside0.mk ((by rw [hg]; exact Nat.ne_of_lt (blk_lt (g := gb423) (o := .cells #[.int .i64 a1_0, .int .i64 a1_1, .int .i64 a1_2, .int .i64 a1_3, .int .i64 a1_4, .int .i64 a1_5] 25 (0, 0)) (by (with_reducible repeat (first | refine blk_drewN ?_ _ | refine blk_drew ?_ | refine blk_alloc ?_ _)); exact BK423.out)) : gb423 ≠ gb439)); have n10_ := Aside0.mk ((by rw [hg]; exact Nat.ne_of_gt (blk_lt (g := gb423) (o := .cells #[.int .i64 a1_0, .int .i64 a1_1, .int .i64 a1_2, .int .i64 a1_3, .int .i64 a1_4, .int .i64 a1_5] 25 (0, 0)) (by (with_reducible repeat (first | refine blk_drewN ?_ _ | refine blk_drew ?_ | refine blk_alloc ?_ _)); exact BK423.out)) : gb439 ≠ gb423)); have n11_ := Aside0.mk ((by rw [hg]; exact Nat.ne_of_lt (blk_lt (g := gb431) (o := .cells #[.int .i64 t424, .int .i64 t425, .int .i64 t426, .int .i64 t427, .int .i64 t428, .int .i64 t429] 25 (0, 0)) (by (with_reducible repeat (first | refine blk_drewN ?_ _ | refine blk_drew ?_ | refine blk_alloc ?_ _)); exact BK431.out)) : gb431 ≠ gb439)); have n12_ := Aside0.mk ((by rw [hg]; exact Nat.ne_of_gt (blk_lt (g := gb431) (o := .cells #[.int .i64 t424, .int .i64 t425, .int .i64 t426, .int .i64 t427, .int .i64 t428, .int .i64 t429] 25 (0, 0)) (by (with_reducible repeat (first | refine blk_drewN ?_ _ | refine blk_drew ?_ | refine blk_alloc ?_ _)); exact BK431.out)) : gb439 ≠ gb431)); clear BK422; clear BK423; clear BK431; clear HB; have BK422 := n0_; have BK423 := n1_; have BK431 := n2_; have HB := n3_; have BK439 := n4_; have GW439 := n5_; have GE439 := n6_; have NB422_439 := n7_; have NB439_422 := n8_; have NB423_439 := n9_; have NB439_423 := n10_; have NB431_439 := n11_; have NB439_431 := n12_; clear n0_ n1_ n2_ n3_ n4_ n5_ n6_ n7_ n8_ n9_ n10_ n11_ n12_; clear hb hbox hg; have hnb23 := NB439_422.out; have hnc23 := NB422_439.out; have hnb24 := NB439_423.out; have hnc24 := NB423_439.out; have hnb25 := NB439_431.out; have hnc25 := NB431_439.out; have hcz26_0 : w22.cell? ⟨gb439, 0, none⟩ = some (.int .i64 0) := (blk_cell BK439.out 0).trans rfl; have hcz26_1 : w22.cell? ⟨gb439, 1, none⟩ = some (.int .i64 0) := (blk_cell BK439.out 1).trans rfl; have hcz26_2 : w22.cell? ⟨gb439, 2, none⟩ = some (.int .i64 0) := (blk_cell BK439.out 2).trans rfl; have hcz26_3 : w22.cell? ⟨gb439, 3, none⟩ = some (.int .i64 0) := (blk_cell BK439.out 3).trans rfl; have hcz26_4 : w22.cell? ⟨gb439, 4, none⟩ = some (.int .i64 0) := (blk_cell BK439.out 4).trans rfl; have hcz26_5 : w22.cell? ⟨gb439, 5, none⟩ = some (.int .i64 0) := (blk_cell BK439.out 5).trans rfl; have hfz26_0 := blk_frozen BK439.out 0; have hfz26_1 := blk_frozen BK439.out 1; have hfz26_2 := blk_frozen BK439.out 2; have hfz26_3 := blk_frozen BK439.out 3; have hfz26_4 := blk_frozen BK439.out 4; have hfz26_5 := blk_frozen BK439.out 5; have hcz27_0 : w22.cell? ⟨gb423, 0, none⟩ = some (.int .i64 a1_0) := (blk_cell BK423.out 0).trans rfl; have hcz27_1 : w22.cell? ⟨gb423, 1, none⟩ = some (.int .i64 a1_1) := (blk_cell BK423.out 1).trans rfl; have hcz27_2 : w22.cell? ⟨gb423, 2, none⟩ = some (.int .i64 a1_2) := (blk_cell BK423.out 2).trans rfl; have hcz27_3 : w22.cell? ⟨gb423, 3, none⟩ = some (.int .i64 a1_3) := (blk_cell BK423.out 3).trans rfl; have hcz27_4 : w22.cell? ⟨gb423, 4, none⟩ = some (.int .i64 a1_4) := (blk_cell BK423.out 4).trans rfl; have hcz27_5 : w22.cell? ⟨gb423, 5, none⟩ = some (.int .i64 a1_5) := (blk_cell BK423.out 5).trans rfl; have hfz27_0 := blk_frozen BK423.out 0; have hfz27_1 := blk_frozen BK423.out 1; have hfz27_2 := blk_frozen BK423.out 2; have hfz27_3 := blk_frozen BK423.out 3; have hfz27_4 := blk_frozen BK423.out 4; have hfz27_5 := blk_frozen BK423.out 5) | ((with_reducible refine gate_callee (f := 9) rfl ?_); refine goesL_ (some 38) rfl rfl Try.func9 (by kernel_rfl) rfl #[.agg #[.int .i64 a1_0, .int .i64 a1_1, .int .i64 a1_2, .int .i64 a1_3, .int .i64 a1_4, .int .i64 a1_5], .int .i64 a3, .int .i64 a4, .int .i64 a5] rfl (by (try simp only [List.map_toArray, List.map_cons, List.map_nil]); first | done | rfl | (simp only [List.length_drop, List.length_take]; rfl)) ?_; (with_reducible refine (alarm_Do.calls a1_0 a1_1 a1_2 a1_3 a1_4 a1_5 a3 a4 a5 t440 t441 t442 t443 t444 t445 t446 _ A9.out).mono ?_); rintro e w28 ⟨rfl, hb⟩; refine ⟨_, rfl, ?_⟩; have n0_ := Aside0.mk (blk_below (g := gb422) (o := .cells #[.int .i64 a0_0, .int .i64 a0_1] 23 (0, 0)) (by (with_reducible repeat (first | refine blk_drewN ?_ _ | refine blk_drew ?_ | refine blk_alloc ?_ _)); refine blk_far ?_ NB422_439.out _; (with_reducible repeat (first | refine blk_drewN ?_ _ | refine blk_drew ?_ | refine blk_alloc ?_ _)); refine blk_far ?_ NB422_439.out _; (with_reducible repeat (first | refine blk_drewN ?_ _ | refine blk_drew ?_ | refine blk_alloc ?_ _)); refine blk_far ?_ NB422_439.out _; (with_reducible repeat (first | refine blk_drewN ?_ _ | refine blk_drew ?_ | refine blk_alloc ?_ _)); refine blk_far ?_ NB422_439.out _; (with_reducible repeat (first | refine blk_drewN ?_ _ | refine blk_drew ?_ | refine blk_alloc ?_ _)); refine blk_far ?_ NB422_439.out _; (with_reducible repeat (first | refine blk_drewN ?_ _ | refine blk_drew ?_ | refine blk_alloc ?_ _)); refine blk_far ?_ NB422_439.out _; (with_reducible repeat (first | refine blk_drewN ?_ _ | refine blk_drew ?_ | refine blk_alloc ?_ _)); exact BK422.out) hb); have n1_ := Aside0.mk (blk_below (g := gb423) (o := .cells #[.int .i64 a1_0, .int .i64 a1_1, .int .i64 a1_2, .int .i64 a1_3, .int .i64 a1_4, .int .i64 a1_5] 25 (0, 0)) (by (with_reducible repeat (first | refine blk_drewN ?_ _ | refine blk_drew ?_ | refine blk_alloc ?_ _)); refine blk_far ?_ NB423_439.out _; (with_reducible repeat (first | refine blk_drewN ?_ _ | refine blk_drew ?_ | refine blk_alloc ?_ _)); refine blk_far ?_ NB423_439.out _; (with_reducible repeat (first | refine blk_drewN ?_ _ | refine blk_drew ?_ | refine blk_alloc ?_ _)); refine blk_far ?_ NB423_439.out _; (with_reducible repeat (first | refine blk_drewN ?_ _ | refine blk_drew ?_ | refine blk_alloc ?_ _)); refine blk_far ?_ NB423_439.out _; (with_reducible repeat (first | refine blk_drewN ?_ _ | refine blk_drew ?_ | refine blk_alloc ?_ _)); refine blk_far ?_ NB423_439.out _; (with_reducible repeat (first | refine blk_drewN ?_ _ | refine blk_drew ?_ | refine blk_alloc ?_ _)); refine blk_far ?_ NB423_439.out _; (with_reducible repeat (first | refine blk_drewN ?_ _ | refine blk_drew ?_ | refine blk_alloc ?_ _)); exact BK423.out) hb); have n2_ := Aside0.mk (blk_below (g := gb431) (o := .cells #[.int .i64 t424, .int .i64 t425, .int .i64 t426, .int .i64 t427, .int .i64 t428, .int .i64 t429] 25 (0, 0)) (by (with_reducible repeat (first | refine blk_drewN ?_ _ | refine blk_drew ?_ | refine blk_alloc ?_ _)); refine blk_far ?_ NB431_439.out _; (with_reducible repeat (first | refine blk_drewN ?_ _ | refine blk_drew ?_ | refine blk_alloc ?_ _)); refine blk_far ?_ NB431_439.out _; (with_reducible repeat (first | refine blk_drewN ?_ _ | refine blk_drew ?_ | refine blk_alloc ?_ _)); refine blk_far ?_ NB431_439.out _; (with_reducible repeat (first | refine blk_drewN ?_ _ | refine blk_drew ?_ | refine blk_alloc ?_ _)); refine blk_far ?_ NB431_439.out _; (with_reducible repeat (first | refine blk_drewN ?_ _ | refine blk_drew ?_ | refine blk_alloc ?_ _)); refine blk_far ?_ NB431_439.out _; (with_reducible repeat (first | refine blk_drewN ?_ _ | refine blk_drew ?_ | refine blk_alloc ?_ _)); refine blk_far ?_ NB431_439.out _; (with_reducible repeat (first | refine blk_drewN ?_ _ | refine blk_drew ?_ | refine blk_alloc ?_ _)); exact BK431.out) hb); have n3_ := Aside0.mk (blk_below (g := gb439) (o := .cells #[.int .i64 t432, .int .i64 t433, .int .i64 t434, .int .i64 t435, .int .i64 t436, .int .i64 t437] 25 (0, 0)) (by (with_reducible repeat (first | refine blk_drewN ?_ _ | refine blk_drew ?_ | refine blk_alloc ?_ _)); refine blk_put (cs := #[.int .i64 t432, .int .i64 t433, .int .i64 t434, .int .i64 t435, .int .i64 t436, .int .i64 0]) ?_ 5 _ rfl; (with_reducible repeat (first | refine blk_drewN ?_ _ | refine blk_drew ?_ | refine blk_alloc ?_ _)); refine blk_put (cs := #[.int .i64 t432, .int .i64 t433, .int .i64 t434, .int .i64 t435, .int .i64 0, .int .i64 0]) ?_ 4 _ rfl; (with_reducible repeat (first | refine blk_drewN ?_ _ | refine blk_drew ?_ | refine blk_alloc ?_ _)); refine blk_put (cs := #[.int .i64 t432, .int .i64 t433, .int .i64 t434, .int .i64 0, .int .i64 0, .int .i64 0]) ?_ 3 _ rfl; (with_reducible repeat (first | refine blk_drewN ?_ _ | refine blk_drew ?_ | refine blk_alloc ?_ _)); refine blk_put (cs := #[.int .i64 t432, .int .i64 t433, .int .i64 0, .int .i64 0, .int .i64 0, .int .i64 0]) ?_ 2 _ rfl; (with_reducible repeat (first | refine blk_drewN ?_ _ | refine blk_drew ?_ | refine blk_alloc ?_ _)); refine blk_put (cs := #[.int .i64 t432, .int .i64 0, .int .i64 0, .int .i64 0, .int .i64 0, .int .i64 0]) ?_ 1 _ rfl; (with_reducible repeat (first | refine blk_drewN ?_ _ | refine blk_drew ?_ | refine blk_alloc ?_ _)); refine blk_put (cs := #[.int .i64 0, .int .i64 0, .int .i64 0, .int .i64 0, .int .i64 0, .int .i64 0]) ?_ 0 _ rfl; (with_reducible repeat (first | refine blk_drewN ?_ _ | refine blk_drew ?_ | refine blk_alloc ?_ _)); exact BK439.out) hb); have n4_ := Aside0.mk (below_step (by repeat (first | (with_reducible first | exact HB.out | apply below_alloc | apply pw_below_drewN | apply below_drew1 | refine below_set ?_ GE422.out | refine below_set ?_ GE423.out | refine below_set ?_ GE431.out | refine below_set ?_ GE439.out) | exact HB.out)) hb); clear BK422; clear BK423; clear BK431; clear BK439; clear HB; have BK422 := n0_; have BK423 := n1_; have BK431 := n2_; have BK439 := n3_; have HB := n4_; clear n0_ n1_ n2_ n3_ n4_; (try clear hb); (try clear hb2); (try clear hk); (try clear hi)) | ((with_reducible refine gate_dst (N := 17) rfl ?_); refine box_event ?hg (N := 17) ?hd (cs := #[.int .i64 0, .int .i64 0, .int .i64 0, .int .i64 0, .int .i64 0, .int .i64 0]) (t := 25) ?hr ?_; (case hd => rfl); (case hg => rfl); (case hr => first | (go_simp; done) | (go_simp; rfl)); intro gb447 hg w29 hbox hb; have n0_ := Aside0.mk (blk_below (g := gb422) (o := .cells #[.int .i64 a0_0, .int .i64 a0_1] 23 (0, 0)) (by (with_reducible repeat (first | refine blk_drewN ?_ _ | refine blk_drew ?_ | refine blk_alloc ?_ _)); exact BK422.out) hb); have n1_ := Aside0.mk (blk_below (g := gb423) (o := .cells #[.int .i64 a1_0, .int .i64 a1_1, .int .i64 a1_2, .int .i64 a1_3, .int .i64 a1_4, .int .i64 a1_5] 25 (0, 0)) (by (with_reducible repeat (first | refine blk_drewN ?_ _ | refine blk_drew ?_ | refine blk_alloc ?_ _)); exact BK423.out) hb); have n2_ := Aside0.mk (blk_below (g := gb431) (o := .cells #[.int .i64 t424, .int .i64 t425, .int .i64 t426, .int .i64 t427, .int .i64 t428, .int .i64 t429] 25 (0, 0)) (by (with_reducible repeat (first | refine blk_drewN ?_ _ | refine blk_drew ?_ | refine blk_alloc ?_ _)); exact BK431.out) hb); have n3_ := Aside0.mk (blk_below (g := gb439) (o := .cells #[.int .i64 t432, .int .i64 t433, .int .i64 t434, .int .i64 t435, .int .i64 t436, .int .i64 t437] 25 (0, 0)) (by (with_reducible repeat (first | refine blk_drewN ?_ _ | refine blk_drew ?_ | refine blk_alloc ?_ _)); exact BK439.out) hb); have n4_ := Aside0.mk (below_step (by repeat (first | (with_reducible first | exact HB.out | apply below_alloc | apply pw_below_drewN | apply below_drew1 | refine below_set ?_ GE422.out | refine below_set ?_ GE423.out | refine below_set ?_ GE431.out | refine below_set ?_ GE439.out) | exact HB.out)) hb); have n5_ := Aside0.mk (hbox); have n6_ := Aside0.mk ((by rw [hg]; exact (below_size (by repeat (first | (with_reducible first | exact HB.out | apply below_alloc | apply pw_below_drewN | apply below_drew1 | refine below_set ?_ GE422.out | refine below_set ?_ GE423.out | refine below_set ?_ GE431.out | refine below_set ?_ GE439.out) | exact HB.out))) : w.heap.size ≤ gb447)); have n7_ := Aside0.mk ((by rw [hg]; exact (below_size (by repeat (first | (with_reducible first | exact HB.out | apply below_alloc | apply pw_below_drewN | apply below_drew1 | refine below_set ?_ GE422.out | refine below_set ?_ GE423.out | refine below_set ?_ GE431.out | refine below_set ?_ GE439.out) | exact HB.out))) : w.heap.size ≤ gb447)); have n8_ := Aside0.mk ((by rw [hg]; exact Nat.ne_of_lt (blk_lt (g := gb422) (o := .cells #[.int .i64 a0_0, .int .i64 a0_1] 23 (0, 0)) (by (with_reducible repeat (first | refine blk_drewN ?_ _ | refine blk_drew ?_ | refine blk_alloc ?_ _)); exact BK422.out)) : gb422 ≠ gb447)); have n9_ := Aside0.mk ((by rw [hg]; exact Nat.ne_of_gt (blk_lt (g := gb422) (o := .cells #[.int .i64 a0_0, .int .i64 a0_1] 23 (0, 0)) (by (with_reducible repeat (first | refine blk_drewN ?_ _ | refine blk_drew ?_ | refine blk_alloc ?_ _)); exact BK422.out)) : gb447 ≠ gb422)); have n10_ := Aside0.mk ((by rw [hg]; exact Nat.ne_of_lt (blk_lt (g := gb423) (o := .cells #[.int .i64 a1_0, .int .i64 a1_1, .int .i64 a1_2, .int .i64 a1_3, .int .i64 a1_4, .int .i64 a1_5] 25 (0, 0)) (by (with_reducible repeat (first | refine blk_drewN ?_ _ | refine blk_drew ?_ | refine blk_alloc ?_ _)); exact BK423.out)) : gb423 ≠ gb447)); have n11_ := Aside0.mk ((by rw [hg]; exact Nat.ne_of_gt (blk_lt (g := gb423) (o := .cells #[.int .i64 a1_0, .int .i64 a1_1, .int .i64 a1_2, .int .i64 a1_3, .int .i64 a1_4, .int .i64 a1_5] 25 (0, 0)) (by (with_reducible repeat (first | refine blk_drewN ?_ _ | refine blk_drew ?_ | refine blk_alloc ?_ _)); exact BK423.out)) : gb447 ≠ gb423)); have n12_ := Aside0.mk ((by rw [hg]; exact Nat.ne_of_lt (blk_lt (g := gb431) (o := .cells #[.int .i64 t424, .int .i64 t425, .int .i64 t426, .int .i64 t427, .int .i64 t428, .int .i64 t429] 25 (0, 0)) (by (with_reducible repeat (first | refine blk_drewN ?_ _ | refine blk_drew ?_ | refine blk_alloc ?_ _)); exact BK431.out)) : gb431 ≠ gb447)); have n13_ := Aside0.mk ((by rw [hg]; exact Nat.ne_of_gt (blk_lt (g := gb431) (o := .cells #[.int .i64 t424, .int .i64 t425, .int .i64 t426, .int .i64 t427, .int .i64 t428, .int .i64 t429] 25 (0, 0)) (by (with_reducible repeat (first | refine blk_drewN ?_ _ | refine blk_drew ?_ | refine blk_alloc ?_ _)); exact BK431.out)) : gb447 ≠ gb431)); have n14_ := Aside0.mk ((by rw [hg]; exact Nat.ne_of_lt (blk_lt (g := gb439) (o := .cells #[.int .i64 t432, .int .i64 t433, .int .i64 t434, .int .i64 t435, .int .i64 t436, .int .i64 t437] 25 (0, 0)) (by (with_reducible repeat (first | refine blk_drewN ?_ _ | refine blk_drew ?_ | refine blk_alloc ?_ _)); exact BK439.out)) : gb439 ≠ gb447)); have n15_ := Aside0.mk ((by rw [hg]; exact Nat.ne_of_gt (blk_lt (g := gb439) (o := .cells #[.int .i64 t432, .int .i64 t433, .int .i64 t434, .int .i64 t435, .int .i64 t436, .int .i64 t437] 25 (0, 0)) (by (with_reducible repeat (first | refine blk_drewN ?_ _ | refine blk_drew ?_ | refine blk_alloc ?_ _)); exact BK439.out)) : gb447 ≠ gb439)); clear BK422; clear BK423; clear BK431; clear BK439; clear HB; have BK422 := n0_; have BK423 := n1_; have BK431 := n2_; have BK439 := n3_; have HB := n4_; have BK447 := n5_; have GW447 := n6_; have GE447 := n7_; have NB422_447 := n8_; have NB447_422 := n9_; have NB423_447 := n10_; have NB447_423 := n11_; have NB431_447 := n12_; have NB447_431 := n13_; have NB439_447 := n14_; have NB447_439 := n15_; clear n0_ n1_ n2_ n3_ n4_ n5_ n6_ n7_ n8_ n9_ n10_ n11_ n12_ n13_ n14_ n15_; clear hb hbox hg; have hnb30 := NB447_422.out; have hnc30 := NB422_447.out; have hnb31 := NB447_423.out; have hnc31 := NB423_447.out; have hnb32 := NB447_431.out; have hnc32 := NB431_447.out; have hnb33 := NB447_439.out; have hnc33 := NB439_447.out; have hcz34_0 : w29.cell? ⟨gb447, 0, none⟩ = some (.int .i64 0) := (blk_cell BK447.out 0).trans rfl; have hcz34_1 : w29.cell? ⟨gb447, 1, none⟩ = some (.int .i64 0) := (blk_cell BK447.out 1).trans rfl; have hcz34_2 : w29.cell? ⟨gb447, 2, none⟩ = some (.int .i64 0) := (blk_cell BK447.out 2).trans rfl; have hcz34_3 : w29.cell? ⟨gb447, 3, none⟩ = some (.int .i64 0) := (blk_cell BK447.out 3).trans rfl; have hcz34_4 : w29.cell? ⟨gb447, 4, none⟩ = some (.int .i64 0) := (blk_cell BK447.out 4).trans rfl; have hcz34_5 : w29.cell? ⟨gb447, 5, none⟩ = some (.int .i64 0) := (blk_cell BK447.out 5).trans rfl; have hfz34_0 := blk_frozen BK447.out 0; have hfz34_1 := blk_frozen BK447.out 1; have hfz34_2 := blk_frozen BK447.out 2; have hfz34_3 := blk_frozen BK447.out 3; have hfz34_4 := blk_frozen BK447.out 4; have hfz34_5 := blk_frozen BK447.out 5))
  (try simp only [Act.put, List.setIfInBounds_toArray, List.set_cons_zero, List.set_cons_succ])
  go_cut [59] (fun v59 wc => ∃ (kq : Nat) (x59_9 : Bool), v59 = .bool x59_9 ∧ Aside0 (watchmanlaw06_AlarmRight.j0 kq a2 a4 t438 t446 x59_9 a1_0 a1_1 a1_2 a1_3 a1_4 a1_5 t432 t433 t434 t435 t436 t437 t440 t441 t442 t443 t444 t445 = some r) ∧ Aside0 (kq ≤ k) ∧ Aside0 (wc.heap[gb422]? = some (.cells #[.int .i64 a0_0, .int .i64 a0_1] 23 (0, 0))) ∧ Aside0 (wc.heap[gb423]? = some (.cells #[.int .i64 a1_0, .int .i64 a1_1, .int .i64 a1_2, .int .i64 a1_3, .int .i64 a1_4, .int .i64 a1_5] 25 (0, 0))) ∧ Aside0 (wc.heap[gb431]? = some (.cells #[.int .i64 t424, .int .i64 t425, .int .i64 t426, .int .i64 t427, .int .i64 t428, .int .i64 t429] 25 (0, 0))) ∧ Aside0 (wc.heap[gb439]? = some (.cells #[.int .i64 t432, .int .i64 t433, .int .i64 t434, .int .i64 t435, .int .i64 t436, .int .i64 t437] 25 (0, 0))) ∧ Aside0 (wc.heap[gb447]? = some (.cells #[.int .i64 t440, .int .i64 t441, .int .i64 t442, .int .i64 t443, .int .i64 t444, .int .i64 t445] 25 (0, 0))) ∧ Aside0 (Below w.heap.size w wc))
  case first =>
    have H := HC10.out
    clear HC10
    by_cases c35 : t430 = 0
    · rw [if_pos c35] at H
      have c35b0 : (t430 == 0) = true := beq_iff_eq.mpr c35
      have c35b1 : (t430 != 0) = false := bne_eq_false_iff_eq.mpr c35
      clear c35
      (first | rw [c35b0] | (simp only [i64_w, i32_w]; rw [c35b0]) | skip)
      replace H := Option.bind_eq_some_iff.mp H
      obtain ⟨t448, A360, H⟩ := H
      replace H : (if t448 = true then (if (!(t424 == a0_0) || (!(t425 == a0_1))) = true then (watchmanlaw06_AlarmRight.j0 k a2 a4 t438 t446 true a1_0 a1_1 a1_2 a1_3 a1_4 a1_5 t432 t433 t434 t435 t436 t437 t440 t441 t442 t443 t444 t445) else (watchmanlaw06_AlarmRight.j0 k a2 a4 t438 t446 (t428 != a4) a1_0 a1_1 a1_2 a1_3 a1_4 a1_5 t432 t433 t434 t435 t436 t437 t440 t441 t442 t443 t444 t445)) else (watchmanlaw06_AlarmRight.j0 k a2 a4 t438 t446 true a1_0 a1_1 a1_2 a1_3 a1_4 a1_5 t432 t433 t434 t435 t436 t437 t440 t441 t442 t443 t444 t445)) = some r := H
      have A36 := Aside0.mk A360
      clear A360
      by_cases c37 : t448 = true
      · subst c37
        have H1 : (if (!(t424 == a0_0) || (!(t425 == a0_1))) = true then (watchmanlaw06_AlarmRight.j0 k a2 a4 t438 t446 true a1_0 a1_1 a1_2 a1_3 a1_4 a1_5 t432 t433 t434 t435 t436 t437 t440 t441 t442 t443 t444 t445) else (watchmanlaw06_AlarmRight.j0 k a2 a4 t438 t446 (t428 != a4) a1_0 a1_1 a1_2 a1_3 a1_4 a1_5 t432 t433 t434 t435 t436 t437 t440 t441 t442 t443 t444 t445)) = some r := by rw [if_pos rfl] at H; exact H
        clear H
        have H := H1
        clear H1
        by_cases c38 : (!(t424 == a0_0) || (!(t425 == a0_1))) = true
        · rw [if_pos c38] at H
          have c38b0 : (!(t424 == a0_0) || (!(t425 == a0_1))) = true := c38
          clear c38
          have H' := Aside0.mk H
          clear H
          have hnb39 := NB431_422.out
          have hnc39 := NB422_431.out
          have hnb40 := NB431_423.out
          have hnc40 := NB423_431.out
          have hnb41 := NB431_439.out
          have hnc41 := NB439_431.out
          have hnb42 := NB431_447.out
          have hnc42 := NB447_431.out
          have hcz43_0 : w29.cell? ⟨gb431, 0, none⟩ = some (.int .i64 t424) := (blk_cell BK431.out 0).trans rfl
          have hcz43_1 : w29.cell? ⟨gb431, 1, none⟩ = some (.int .i64 t425) := (blk_cell BK431.out 1).trans rfl
          have hcz43_2 : w29.cell? ⟨gb431, 2, none⟩ = some (.int .i64 t426) := (blk_cell BK431.out 2).trans rfl
          have hcz43_3 : w29.cell? ⟨gb431, 3, none⟩ = some (.int .i64 t427) := (blk_cell BK431.out 3).trans rfl
          have hcz43_4 : w29.cell? ⟨gb431, 4, none⟩ = some (.int .i64 t428) := (blk_cell BK431.out 4).trans rfl
          have hcz43_5 : w29.cell? ⟨gb431, 5, none⟩ = some (.int .i64 t429) := (blk_cell BK431.out 5).trans rfl
          have hfz43_0 := blk_frozen BK431.out 0
          have hfz43_1 := blk_frozen BK431.out 1
          have hfz43_2 := blk_frozen BK431.out 2
          have hfz43_3 := blk_frozen BK431.out 3
          have hfz43_4 := blk_frozen BK431.out 4
          have hfz43_5 := blk_frozen BK431.out 5
          go_wp2_with (first | (go_at_call 14; (with_reducible refine (alarm_Is.calls t424 t425 t426 t427 t428 t429 true _ A36.out).mono ?_); rintro e w44 ⟨rfl, hb⟩; have n0_ := Aside0.mk (blk_below (g := gb422) (o := .cells #[.int .i64 a0_0, .int .i64 a0_1] 23 (0, 0)) (by (with_reducible repeat (first | refine blk_drewN ?_ _ | refine blk_drew ?_ | refine blk_alloc ?_ _)); refine blk_far ?_ NB422_447.out _; (with_reducible repeat (first | refine blk_drewN ?_ _ | refine blk_drew ?_ | refine blk_alloc ?_ _)); refine blk_far ?_ NB422_447.out _; (with_reducible repeat (first | refine blk_drewN ?_ _ | refine blk_drew ?_ | refine blk_alloc ?_ _)); refine blk_far ?_ NB422_447.out _; (with_reducible repeat (first | refine blk_drewN ?_ _ | refine blk_drew ?_ | refine blk_alloc ?_ _)); refine blk_far ?_ NB422_447.out _; (with_reducible repeat (first | refine blk_drewN ?_ _ | refine blk_drew ?_ | refine blk_alloc ?_ _)); refine blk_far ?_ NB422_447.out _; (with_reducible repeat (first | refine blk_drewN ?_ _ | refine blk_drew ?_ | refine blk_alloc ?_ _)); refine blk_far ?_ NB422_447.out _; (with_reducible repeat (first | refine blk_drewN ?_ _ | refine blk_drew ?_ | refine blk_alloc ?_ _)); exact BK422.out) hb); have n1_ := Aside0.mk (blk_below (g := gb423) (o := .cells #[.int .i64 a1_0, .int .i64 a1_1, .int .i64 a1_2, .int .i64 a1_3, .int .i64 a1_4, .int .i64 a1_5] 25 (0, 0)) (by (with_reducible repeat (first | refine blk_drewN ?_ _ | refine blk_drew ?_ | refine blk_alloc ?_ _)); refine blk_far ?_ NB423_447.out _; (with_reducible repeat (first | refine blk_drewN ?_ _ | refine blk_drew ?_ | refine blk_alloc ?_ _)); refine blk_far ?_ NB423_447.out _; (with_reducible repeat (first | refine blk_drewN ?_ _ | refine blk_drew ?_ | refine blk_alloc ?_ _)); refine blk_far ?_ NB423_447.out _; (with_reducible repeat (first | refine blk_drewN ?_ _ | refine blk_drew ?_ | refine blk_alloc ?_ _)); refine blk_far ?_ NB423_447.out _; (with_reducible repeat (first | refine blk_drewN ?_ _ | refine blk_drew ?_ | refine blk_alloc ?_ _)); refine blk_far ?_ NB423_447.out _; (with_reducible repeat (first | refine blk_drewN ?_ _ | refine blk_drew ?_ | refine blk_alloc ?_ _)); refine blk_far ?_ NB423_447.out _; (with_reducible repeat (first | refine blk_drewN ?_ _ | refine blk_drew ?_ | refine blk_alloc ?_ _)); exact BK423.out) hb); have n2_ := Aside0.mk (blk_below (g := gb431) (o := .cells #[.int .i64 t424, .int .i64 t425, .int .i64 t426, .int .i64 t427, .int .i64 t428, .int .i64 t429] 25 (0, 0)) (by (with_reducible repeat (first | refine blk_drewN ?_ _ | refine blk_drew ?_ | refine blk_alloc ?_ _)); refine blk_far ?_ NB431_447.out _; (with_reducible repeat (first | refine blk_drewN ?_ _ | refine blk_drew ?_ | refine blk_alloc ?_ _)); refine blk_far ?_ NB431_447.out _; (with_reducible repeat (first | refine blk_drewN ?_ _ | refine blk_drew ?_ | refine blk_alloc ?_ _)); refine blk_far ?_ NB431_447.out _; (with_reducible repeat (first | refine blk_drewN ?_ _ | refine blk_drew ?_ | refine blk_alloc ?_ _)); refine blk_far ?_ NB431_447.out _; (with_reducible repeat (first | refine blk_drewN ?_ _ | refine blk_drew ?_ | refine blk_alloc ?_ _)); refine blk_far ?_ NB431_447.out _; (with_reducible repeat (first | refine blk_drewN ?_ _ | refine blk_drew ?_ | refine blk_alloc ?_ _)); refine blk_far ?_ NB431_447.out _; (with_reducible repeat (first | refine blk_drewN ?_ _ | refine blk_drew ?_ | refine blk_alloc ?_ _)); exact BK431.out) hb); have n3_ := Aside0.mk (blk_below (g := gb439) (o := .cells #[.int .i64 t432, .int .i64 t433, .int .i64 t434, .int .i64 t435, .int .i64 t436, .int .i64 t437] 25 (0, 0)) (by (with_reducible repeat (first | refine blk_drewN ?_ _ | refine blk_drew ?_ | refine blk_alloc ?_ _)); refine blk_far ?_ NB439_447.out _; (with_reducible repeat (first | refine blk_drewN ?_ _ | refine blk_drew ?_ | refine blk_alloc ?_ _)); refine blk_far ?_ NB439_447.out _; (with_reducible repeat (first | refine blk_drewN ?_ _ | refine blk_drew ?_ | refine blk_alloc ?_ _)); refine blk_far ?_ NB439_447.out _; (with_reducible repeat (first | refine blk_drewN ?_ _ | refine blk_drew ?_ | refine blk_alloc ?_ _)); refine blk_far ?_ NB439_447.out _; (with_reducible repeat (first | refine blk_drewN ?_ _ | refine blk_drew ?_ | refine blk_alloc ?_ _)); refine blk_far ?_ NB439_447.out _; (with_reducible repeat (first | refine blk_drewN ?_ _ | refine blk_drew ?_ | refine blk_alloc ?_ _)); refine blk_far ?_ NB439_447.out _; (with_reducible repeat (first | refine blk_drewN ?_ _ | refine blk_drew ?_ | refine blk_alloc ?_ _)); exact BK439.out) hb); have n4_ := Aside0.mk (blk_below (g := gb447) (o := .cells #[.int .i64 t440, .int .i64 t441, .int .i64 t442, .int .i64 t443, .int .i64 t444, .int .i64 t445] 25 (0, 0)) (by (with_reducible repeat (first | refine blk_drewN ?_ _ | refine blk_drew ?_ | refine blk_alloc ?_ _)); refine blk_put (cs := #[.int .i64 t440, .int .i64 t441, .int .i64 t442, .int .i64 t443, .int .i64 t444, .int .i64 0]) ?_ 5 _ rfl; (with_reducible repeat (first | refine blk_drewN ?_ _ | refine blk_drew ?_ | refine blk_alloc ?_ _)); refine blk_put (cs := #[.int .i64 t440, .int .i64 t441, .int .i64 t442, .int .i64 t443, .int .i64 0, .int .i64 0]) ?_ 4 _ rfl; (with_reducible repeat (first | refine blk_drewN ?_ _ | refine blk_drew ?_ | refine blk_alloc ?_ _)); refine blk_put (cs := #[.int .i64 t440, .int .i64 t441, .int .i64 t442, .int .i64 0, .int .i64 0, .int .i64 0]) ?_ 3 _ rfl; (with_reducible repeat (first | refine blk_drewN ?_ _ | refine blk_drew ?_ | refine blk_alloc ?_ _)); refine blk_put (cs := #[.int .i64 t440, .int .i64 t441, .int .i64 0, .int .i64 0, .int .i64 0, .int .i64 0]) ?_ 2 _ rfl; (with_reducible repeat (first | refine blk_drewN ?_ _ | refine blk_drew ?_ | refine blk_alloc ?_ _)); refine blk_put (cs := #[.int .i64 t440, .int .i64 0, .int .i64 0, .int .i64 0, .int .i64 0, .int .i64 0]) ?_ 1 _ rfl; (with_reducible repeat (first | refine blk_drewN ?_ _ | refine blk_drew ?_ | refine blk_alloc ?_ _)); refine blk_put (cs := #[.int .i64 0, .int .i64 0, .int .i64 0, .int .i64 0, .int .i64 0, .int .i64 0]) ?_ 0 _ rfl; (with_reducible repeat (first | refine blk_drewN ?_ _ | refine blk_drew ?_ | refine blk_alloc ?_ _)); exact BK447.out) hb); have n5_ := Aside0.mk (below_step (by repeat (first | (with_reducible first | exact HB.out | apply below_alloc | apply pw_below_drewN | apply below_drew1 | refine below_set ?_ GE422.out | refine below_set ?_ GE423.out | refine below_set ?_ GE431.out | refine below_set ?_ GE439.out | refine below_set ?_ GE447.out) | exact HB.out)) hb); clear BK422; clear BK423; clear BK431; clear BK439; clear BK447; clear HB; have BK422 := n0_; have BK423 := n1_; have BK431 := n2_; have BK439 := n3_; have BK447 := n4_; have HB := n5_; clear n0_ n1_ n2_ n3_ n4_ n5_; (try clear hb); (try clear hb2); (try clear hk); (try clear hi); have hcz45_0 : w44.cell? ⟨gb431, 0, none⟩ = some (.int .i64 t424) := (blk_cell BK431.out 0).trans rfl; have hcz45_1 : w44.cell? ⟨gb431, 1, none⟩ = some (.int .i64 t425) := (blk_cell BK431.out 1).trans rfl; have hcz45_2 : w44.cell? ⟨gb431, 2, none⟩ = some (.int .i64 t426) := (blk_cell BK431.out 2).trans rfl; have hcz45_3 : w44.cell? ⟨gb431, 3, none⟩ = some (.int .i64 t427) := (blk_cell BK431.out 3).trans rfl; have hcz45_4 : w44.cell? ⟨gb431, 4, none⟩ = some (.int .i64 t428) := (blk_cell BK431.out 4).trans rfl; have hcz45_5 : w44.cell? ⟨gb431, 5, none⟩ = some (.int .i64 t429) := (blk_cell BK431.out 5).trans rfl; have hfz45_0 := blk_frozen BK431.out 0; have hfz45_1 := blk_frozen BK431.out 1; have hfz45_2 := blk_frozen BK431.out 2; have hfz45_3 := blk_frozen BK431.out 3; have hfz45_4 := blk_frozen BK431.out 4; have hfz45_5 := blk_frozen BK431.out 5; have hnb46 := NB422_423.out; have hnc46 := NB423_422.out; have hnb47 := NB422_439.out; have hnc47 := NB439_422.out; have hnb48 := NB422_447.out; have hnc48 := NB447_422.out; have hcz49_0 : w44.cell? ⟨gb422, 0, none⟩ = some (.int .i64 a0_0) := (blk_cell BK422.out 0).trans rfl; have hcz49_1 : w44.cell? ⟨gb422, 1, none⟩ = some (.int .i64 a0_1) := (blk_cell BK422.out 1).trans rfl; have hfz49_0 := blk_frozen BK422.out 0; have hfz49_1 := blk_frozen BK422.out 1))
          go_meet
          case rel => exact ⟨_, (true), (by first | rfl | (simp; done) | (simp [*]; done)), H', ⟨by first | omega | exact Nat.le_refl _⟩, ⟨by (with_reducible repeat (first | refine blk_drewN ?_ _ | refine blk_drew ?_ | refine blk_alloc ?_ _)); exact BK422.out⟩, ⟨by (with_reducible repeat (first | refine blk_drewN ?_ _ | refine blk_drew ?_ | refine blk_alloc ?_ _)); exact BK423.out⟩, ⟨by (with_reducible repeat (first | refine blk_drewN ?_ _ | refine blk_drew ?_ | refine blk_alloc ?_ _)); exact BK431.out⟩, ⟨by (with_reducible repeat (first | refine blk_drewN ?_ _ | refine blk_drew ?_ | refine blk_alloc ?_ _)); exact BK439.out⟩, ⟨by (with_reducible repeat (first | refine blk_drewN ?_ _ | refine blk_drew ?_ | refine blk_alloc ?_ _)); exact BK447.out⟩, ⟨by repeat (first | (with_reducible first | exact HB.out | apply below_alloc | apply pw_below_drewN | apply below_drew1 | refine below_set ?_ GE422.out | refine below_set ?_ GE423.out | refine below_set ?_ GE431.out | refine below_set ?_ GE439.out | refine below_set ?_ GE447.out) | exact HB.out)⟩⟩
        · rw [if_neg c38] at H
          have c38b0 : (!(t424 == a0_0) || (!(t425 == a0_1))) = false := by simpa using c38
          clear c38
          have H' := Aside0.mk H
          clear H
          have hnb50 := NB431_422.out
          have hnc50 := NB422_431.out
          have hnb51 := NB431_423.out
          have hnc51 := NB423_431.out
          have hnb52 := NB431_439.out
          have hnc52 := NB439_431.out
          have hnb53 := NB431_447.out
          have hnc53 := NB447_431.out
          have hcz54_0 : w29.cell? ⟨gb431, 0, none⟩ = some (.int .i64 t424) := (blk_cell BK431.out 0).trans rfl
          have hcz54_1 : w29.cell? ⟨gb431, 1, none⟩ = some (.int .i64 t425) := (blk_cell BK431.out 1).trans rfl
          have hcz54_2 : w29.cell? ⟨gb431, 2, none⟩ = some (.int .i64 t426) := (blk_cell BK431.out 2).trans rfl
          have hcz54_3 : w29.cell? ⟨gb431, 3, none⟩ = some (.int .i64 t427) := (blk_cell BK431.out 3).trans rfl
          have hcz54_4 : w29.cell? ⟨gb431, 4, none⟩ = some (.int .i64 t428) := (blk_cell BK431.out 4).trans rfl
          have hcz54_5 : w29.cell? ⟨gb431, 5, none⟩ = some (.int .i64 t429) := (blk_cell BK431.out 5).trans rfl
          have hfz54_0 := blk_frozen BK431.out 0
          have hfz54_1 := blk_frozen BK431.out 1
          have hfz54_2 := blk_frozen BK431.out 2
          have hfz54_3 := blk_frozen BK431.out 3
          have hfz54_4 := blk_frozen BK431.out 4
          have hfz54_5 := blk_frozen BK431.out 5
          go_wp2_with (first | (go_at_call 14; (with_reducible refine (alarm_Is.calls t424 t425 t426 t427 t428 t429 true _ A36.out).mono ?_); rintro e w55 ⟨rfl, hb⟩; have n0_ := Aside0.mk (blk_below (g := gb422) (o := .cells #[.int .i64 a0_0, .int .i64 a0_1] 23 (0, 0)) (by (with_reducible repeat (first | refine blk_drewN ?_ _ | refine blk_drew ?_ | refine blk_alloc ?_ _)); refine blk_far ?_ NB422_447.out _; (with_reducible repeat (first | refine blk_drewN ?_ _ | refine blk_drew ?_ | refine blk_alloc ?_ _)); refine blk_far ?_ NB422_447.out _; (with_reducible repeat (first | refine blk_drewN ?_ _ | refine blk_drew ?_ | refine blk_alloc ?_ _)); refine blk_far ?_ NB422_447.out _; (with_reducible repeat (first | refine blk_drewN ?_ _ | refine blk_drew ?_ | refine blk_alloc ?_ _)); refine blk_far ?_ NB422_447.out _; (with_reducible repeat (first | refine blk_drewN ?_ _ | refine blk_drew ?_ | refine blk_alloc ?_ _)); refine blk_far ?_ NB422_447.out _; (with_reducible repeat (first | refine blk_drewN ?_ _ | refine blk_drew ?_ | refine blk_alloc ?_ _)); refine blk_far ?_ NB422_447.out _; (with_reducible repeat (first | refine blk_drewN ?_ _ | refine blk_drew ?_ | refine blk_alloc ?_ _)); exact BK422.out) hb); have n1_ := Aside0.mk (blk_below (g := gb423) (o := .cells #[.int .i64 a1_0, .int .i64 a1_1, .int .i64 a1_2, .int .i64 a1_3, .int .i64 a1_4, .int .i64 a1_5] 25 (0, 0)) (by (with_reducible repeat (first | refine blk_drewN ?_ _ | refine blk_drew ?_ | refine blk_alloc ?_ _)); refine blk_far ?_ NB423_447.out _; (with_reducible repeat (first | refine blk_drewN ?_ _ | refine blk_drew ?_ | refine blk_alloc ?_ _)); refine blk_far ?_ NB423_447.out _; (with_reducible repeat (first | refine blk_drewN ?_ _ | refine blk_drew ?_ | refine blk_alloc ?_ _)); refine blk_far ?_ NB423_447.out _; (with_reducible repeat (first | refine blk_drewN ?_ _ | refine blk_drew ?_ | refine blk_alloc ?_ _)); refine blk_far ?_ NB423_447.out _; (with_reducible repeat (first | refine blk_drewN ?_ _ | refine blk_drew ?_ | refine blk_alloc ?_ _)); refine blk_far ?_ NB423_447.out _; (with_reducible repeat (first | refine blk_drewN ?_ _ | refine blk_drew ?_ | refine blk_alloc ?_ _)); refine blk_far ?_ NB423_447.out _; (with_reducible repeat (first | refine blk_drewN ?_ _ | refine blk_drew ?_ | refine blk_alloc ?_ _)); exact BK423.out) hb); have n2_ := Aside0.mk (blk_below (g := gb431) (o := .cells #[.int .i64 t424, .int .i64 t425, .int .i64 t426, .int .i64 t427, .int .i64 t428, .int .i64 t429] 25 (0, 0)) (by (with_reducible repeat (first | refine blk_drewN ?_ _ | refine blk_drew ?_ | refine blk_alloc ?_ _)); refine blk_far ?_ NB431_447.out _; (with_reducible repeat (first | refine blk_drewN ?_ _ | refine blk_drew ?_ | refine blk_alloc ?_ _)); refine blk_far ?_ NB431_447.out _; (with_reducible repeat (first | refine blk_drewN ?_ _ | refine blk_drew ?_ | refine blk_alloc ?_ _)); refine blk_far ?_ NB431_447.out _; (with_reducible repeat (first | refine blk_drewN ?_ _ | refine blk_drew ?_ | refine blk_alloc ?_ _)); refine blk_far ?_ NB431_447.out _; (with_reducible repeat (first | refine blk_drewN ?_ _ | refine blk_drew ?_ | refine blk_alloc ?_ _)); refine blk_far ?_ NB431_447.out _; (with_reducible repeat (first | refine blk_drewN ?_ _ | refine blk_drew ?_ | refine blk_alloc ?_ _)); refine blk_far ?_ NB431_447.out _; (with_reducible repeat (first | refine blk_drewN ?_ _ | refine blk_drew ?_ | refine blk_alloc ?_ _)); exact BK431.out) hb); have n3_ := Aside0.mk (blk_below (g := gb439) (o := .cells #[.int .i64 t432, .int .i64 t433, .int .i64 t434, .int .i64 t435, .int .i64 t436, .int .i64 t437] 25 (0, 0)) (by (with_reducible repeat (first | refine blk_drewN ?_ _ | refine blk_drew ?_ | refine blk_alloc ?_ _)); refine blk_far ?_ NB439_447.out _; (with_reducible repeat (first | refine blk_drewN ?_ _ | refine blk_drew ?_ | refine blk_alloc ?_ _)); refine blk_far ?_ NB439_447.out _; (with_reducible repeat (first | refine blk_drewN ?_ _ | refine blk_drew ?_ | refine blk_alloc ?_ _)); refine blk_far ?_ NB439_447.out _; (with_reducible repeat (first | refine blk_drewN ?_ _ | refine blk_drew ?_ | refine blk_alloc ?_ _)); refine blk_far ?_ NB439_447.out _; (with_reducible repeat (first | refine blk_drewN ?_ _ | refine blk_drew ?_ | refine blk_alloc ?_ _)); refine blk_far ?_ NB439_447.out _; (with_reducible repeat (first | refine blk_drewN ?_ _ | refine blk_drew ?_ | refine blk_alloc ?_ _)); refine blk_far ?_ NB439_447.out _; (with_reducible repeat (first | refine blk_drewN ?_ _ | refine blk_drew ?_ | refine blk_alloc ?_ _)); exact BK439.out) hb); have n4_ := Aside0.mk (blk_below (g := gb447) (o := .cells #[.int .i64 t440, .int .i64 t441, .int .i64 t442, .int .i64 t443, .int .i64 t444, .int .i64 t445] 25 (0, 0)) (by (with_reducible repeat (first | refine blk_drewN ?_ _ | refine blk_drew ?_ | refine blk_alloc ?_ _)); refine blk_put (cs := #[.int .i64 t440, .int .i64 t441, .int .i64 t442, .int .i64 t443, .int .i64 t444, .int .i64 0]) ?_ 5 _ rfl; (with_reducible repeat (first | refine blk_drewN ?_ _ | refine blk_drew ?_ | refine blk_alloc ?_ _)); refine blk_put (cs := #[.int .i64 t440, .int .i64 t441, .int .i64 t442, .int .i64 t443, .int .i64 0, .int .i64 0]) ?_ 4 _ rfl; (with_reducible repeat (first | refine blk_drewN ?_ _ | refine blk_drew ?_ | refine blk_alloc ?_ _)); refine blk_put (cs := #[.int .i64 t440, .int .i64 t441, .int .i64 t442, .int .i64 0, .int .i64 0, .int .i64 0]) ?_ 3 _ rfl; (with_reducible repeat (first | refine blk_drewN ?_ _ | refine blk_drew ?_ | refine blk_alloc ?_ _)); refine blk_put (cs := #[.int .i64 t440, .int .i64 t441, .int .i64 0, .int .i64 0, .int .i64 0, .int .i64 0]) ?_ 2 _ rfl; (with_reducible repeat (first | refine blk_drewN ?_ _ | refine blk_drew ?_ | refine blk_alloc ?_ _)); refine blk_put (cs := #[.int .i64 t440, .int .i64 0, .int .i64 0, .int .i64 0, .int .i64 0, .int .i64 0]) ?_ 1 _ rfl; (with_reducible repeat (first | refine blk_drewN ?_ _ | refine blk_drew ?_ | refine blk_alloc ?_ _)); refine blk_put (cs := #[.int .i64 0, .int .i64 0, .int .i64 0, .int .i64 0, .int .i64 0, .int .i64 0]) ?_ 0 _ rfl; (with_reducible repeat (first | refine blk_drewN ?_ _ | refine blk_drew ?_ | refine blk_alloc ?_ _)); exact BK447.out) hb); have n5_ := Aside0.mk (below_step (by repeat (first | (with_reducible first | exact HB.out | apply below_alloc | apply pw_below_drewN | apply below_drew1 | refine below_set ?_ GE422.out | refine below_set ?_ GE423.out | refine below_set ?_ GE431.out | refine below_set ?_ GE439.out | refine below_set ?_ GE447.out) | exact HB.out)) hb); clear BK422; clear BK423; clear BK431; clear BK439; clear BK447; clear HB; have BK422 := n0_; have BK423 := n1_; have BK431 := n2_; have BK439 := n3_; have BK447 := n4_; have HB := n5_; clear n0_ n1_ n2_ n3_ n4_ n5_; (try clear hb); (try clear hb2); (try clear hk); (try clear hi); have hcz56_0 : w55.cell? ⟨gb431, 0, none⟩ = some (.int .i64 t424) := (blk_cell BK431.out 0).trans rfl; have hcz56_1 : w55.cell? ⟨gb431, 1, none⟩ = some (.int .i64 t425) := (blk_cell BK431.out 1).trans rfl; have hcz56_2 : w55.cell? ⟨gb431, 2, none⟩ = some (.int .i64 t426) := (blk_cell BK431.out 2).trans rfl; have hcz56_3 : w55.cell? ⟨gb431, 3, none⟩ = some (.int .i64 t427) := (blk_cell BK431.out 3).trans rfl; have hcz56_4 : w55.cell? ⟨gb431, 4, none⟩ = some (.int .i64 t428) := (blk_cell BK431.out 4).trans rfl; have hcz56_5 : w55.cell? ⟨gb431, 5, none⟩ = some (.int .i64 t429) := (blk_cell BK431.out 5).trans rfl; have hfz56_0 := blk_frozen BK431.out 0; have hfz56_1 := blk_frozen BK431.out 1; have hfz56_2 := blk_frozen BK431.out 2; have hfz56_3 := blk_frozen BK431.out 3; have hfz56_4 := blk_frozen BK431.out 4; have hfz56_5 := blk_frozen BK431.out 5; have hnb57 := NB422_423.out; have hnc57 := NB423_422.out; have hnb58 := NB422_439.out; have hnc58 := NB439_422.out; have hnb59 := NB422_447.out; have hnc59 := NB447_422.out; have hcz60_0 : w55.cell? ⟨gb422, 0, none⟩ = some (.int .i64 a0_0) := (blk_cell BK422.out 0).trans rfl; have hcz60_1 : w55.cell? ⟨gb422, 1, none⟩ = some (.int .i64 a0_1) := (blk_cell BK422.out 1).trans rfl; have hfz60_0 := blk_frozen BK422.out 0; have hfz60_1 := blk_frozen BK422.out 1))
          go_meet
          case rel => exact ⟨_, ((t428 != a4)), (by first | rfl | (simp; done) | (simp [*]; done)), H', ⟨by first | omega | exact Nat.le_refl _⟩, ⟨by (with_reducible repeat (first | refine blk_drewN ?_ _ | refine blk_drew ?_ | refine blk_alloc ?_ _)); exact BK422.out⟩, ⟨by (with_reducible repeat (first | refine blk_drewN ?_ _ | refine blk_drew ?_ | refine blk_alloc ?_ _)); exact BK423.out⟩, ⟨by (with_reducible repeat (first | refine blk_drewN ?_ _ | refine blk_drew ?_ | refine blk_alloc ?_ _)); exact BK431.out⟩, ⟨by (with_reducible repeat (first | refine blk_drewN ?_ _ | refine blk_drew ?_ | refine blk_alloc ?_ _)); exact BK439.out⟩, ⟨by (with_reducible repeat (first | refine blk_drewN ?_ _ | refine blk_drew ?_ | refine blk_alloc ?_ _)); exact BK447.out⟩, ⟨by repeat (first | (with_reducible first | exact HB.out | apply below_alloc | apply pw_below_drewN | apply below_drew1 | refine below_set ?_ GE422.out | refine below_set ?_ GE423.out | refine below_set ?_ GE431.out | refine below_set ?_ GE439.out | refine below_set ?_ GE447.out) | exact HB.out)⟩⟩
      · replace c37 := Bool.eq_false_iff.mpr c37
        subst c37
        have H1 : (watchmanlaw06_AlarmRight.j0 k a2 a4 t438 t446 true a1_0 a1_1 a1_2 a1_3 a1_4 a1_5 t432 t433 t434 t435 t436 t437 t440 t441 t442 t443 t444 t445) = some r := by rw [if_neg (show ¬ (false = true) by decide)] at H; exact H
        clear H
        have H := H1
        clear H1
        have H' := Aside0.mk H
        clear H
        have hnb61 := NB431_422.out
        have hnc61 := NB422_431.out
        have hnb62 := NB431_423.out
        have hnc62 := NB423_431.out
        have hnb63 := NB431_439.out
        have hnc63 := NB439_431.out
        have hnb64 := NB431_447.out
        have hnc64 := NB447_431.out
        have hcz65_0 : w29.cell? ⟨gb431, 0, none⟩ = some (.int .i64 t424) := (blk_cell BK431.out 0).trans rfl
        have hcz65_1 : w29.cell? ⟨gb431, 1, none⟩ = some (.int .i64 t425) := (blk_cell BK431.out 1).trans rfl
        have hcz65_2 : w29.cell? ⟨gb431, 2, none⟩ = some (.int .i64 t426) := (blk_cell BK431.out 2).trans rfl
        have hcz65_3 : w29.cell? ⟨gb431, 3, none⟩ = some (.int .i64 t427) := (blk_cell BK431.out 3).trans rfl
        have hcz65_4 : w29.cell? ⟨gb431, 4, none⟩ = some (.int .i64 t428) := (blk_cell BK431.out 4).trans rfl
        have hcz65_5 : w29.cell? ⟨gb431, 5, none⟩ = some (.int .i64 t429) := (blk_cell BK431.out 5).trans rfl
        have hfz65_0 := blk_frozen BK431.out 0
        have hfz65_1 := blk_frozen BK431.out 1
        have hfz65_2 := blk_frozen BK431.out 2
        have hfz65_3 := blk_frozen BK431.out 3
        have hfz65_4 := blk_frozen BK431.out 4
        have hfz65_5 := blk_frozen BK431.out 5
        go_wp2_with (first | (go_at_call 14; (with_reducible refine (alarm_Is.calls t424 t425 t426 t427 t428 t429 false _ A36.out).mono ?_); rintro e w66 ⟨rfl, hb⟩; have n0_ := Aside0.mk (blk_below (g := gb422) (o := .cells #[.int .i64 a0_0, .int .i64 a0_1] 23 (0, 0)) (by (with_reducible repeat (first | refine blk_drewN ?_ _ | refine blk_drew ?_ | refine blk_alloc ?_ _)); refine blk_far ?_ NB422_447.out _; (with_reducible repeat (first | refine blk_drewN ?_ _ | refine blk_drew ?_ | refine blk_alloc ?_ _)); refine blk_far ?_ NB422_447.out _; (with_reducible repeat (first | refine blk_drewN ?_ _ | refine blk_drew ?_ | refine blk_alloc ?_ _)); refine blk_far ?_ NB422_447.out _; (with_reducible repeat (first | refine blk_drewN ?_ _ | refine blk_drew ?_ | refine blk_alloc ?_ _)); refine blk_far ?_ NB422_447.out _; (with_reducible repeat (first | refine blk_drewN ?_ _ | refine blk_drew ?_ | refine blk_alloc ?_ _)); refine blk_far ?_ NB422_447.out _; (with_reducible repeat (first | refine blk_drewN ?_ _ | refine blk_drew ?_ | refine blk_alloc ?_ _)); refine blk_far ?_ NB422_447.out _; (with_reducible repeat (first | refine blk_drewN ?_ _ | refine blk_drew ?_ | refine blk_alloc ?_ _)); exact BK422.out) hb); have n1_ := Aside0.mk (blk_below (g := gb423) (o := .cells #[.int .i64 a1_0, .int .i64 a1_1, .int .i64 a1_2, .int .i64 a1_3, .int .i64 a1_4, .int .i64 a1_5] 25 (0, 0)) (by (with_reducible repeat (first | refine blk_drewN ?_ _ | refine blk_drew ?_ | refine blk_alloc ?_ _)); refine blk_far ?_ NB423_447.out _; (with_reducible repeat (first | refine blk_drewN ?_ _ | refine blk_drew ?_ | refine blk_alloc ?_ _)); refine blk_far ?_ NB423_447.out _; (with_reducible repeat (first | refine blk_drewN ?_ _ | refine blk_drew ?_ | refine blk_alloc ?_ _)); refine blk_far ?_ NB423_447.out _; (with_reducible repeat (first | refine blk_drewN ?_ _ | refine blk_drew ?_ | refine blk_alloc ?_ _)); refine blk_far ?_ NB423_447.out _; (with_reducible repeat (first | refine blk_drewN ?_ _ | refine blk_drew ?_ | refine blk_alloc ?_ _)); refine blk_far ?_ NB423_447.out _; (with_reducible repeat (first | refine blk_drewN ?_ _ | refine blk_drew ?_ | refine blk_alloc ?_ _)); refine blk_far ?_ NB423_447.out _; (with_reducible repeat (first | refine blk_drewN ?_ _ | refine blk_drew ?_ | refine blk_alloc ?_ _)); exact BK423.out) hb); have n2_ := Aside0.mk (blk_below (g := gb431) (o := .cells #[.int .i64 t424, .int .i64 t425, .int .i64 t426, .int .i64 t427, .int .i64 t428, .int .i64 t429] 25 (0, 0)) (by (with_reducible repeat (first | refine blk_drewN ?_ _ | refine blk_drew ?_ | refine blk_alloc ?_ _)); refine blk_far ?_ NB431_447.out _; (with_reducible repeat (first | refine blk_drewN ?_ _ | refine blk_drew ?_ | refine blk_alloc ?_ _)); refine blk_far ?_ NB431_447.out _; (with_reducible repeat (first | refine blk_drewN ?_ _ | refine blk_drew ?_ | refine blk_alloc ?_ _)); refine blk_far ?_ NB431_447.out _; (with_reducible repeat (first | refine blk_drewN ?_ _ | refine blk_drew ?_ | refine blk_alloc ?_ _)); refine blk_far ?_ NB431_447.out _; (with_reducible repeat (first | refine blk_drewN ?_ _ | refine blk_drew ?_ | refine blk_alloc ?_ _)); refine blk_far ?_ NB431_447.out _; (with_reducible repeat (first | refine blk_drewN ?_ _ | refine blk_drew ?_ | refine blk_alloc ?_ _)); refine blk_far ?_ NB431_447.out _; (with_reducible repeat (first | refine blk_drewN ?_ _ | refine blk_drew ?_ | refine blk_alloc ?_ _)); exact BK431.out) hb); have n3_ := Aside0.mk (blk_below (g := gb439) (o := .cells #[.int .i64 t432, .int .i64 t433, .int .i64 t434, .int .i64 t435, .int .i64 t436, .int .i64 t437] 25 (0, 0)) (by (with_reducible repeat (first | refine blk_drewN ?_ _ | refine blk_drew ?_ | refine blk_alloc ?_ _)); refine blk_far ?_ NB439_447.out _; (with_reducible repeat (first | refine blk_drewN ?_ _ | refine blk_drew ?_ | refine blk_alloc ?_ _)); refine blk_far ?_ NB439_447.out _; (with_reducible repeat (first | refine blk_drewN ?_ _ | refine blk_drew ?_ | refine blk_alloc ?_ _)); refine blk_far ?_ NB439_447.out _; (with_reducible repeat (first | refine blk_drewN ?_ _ | refine blk_drew ?_ | refine blk_alloc ?_ _)); refine blk_far ?_ NB439_447.out _; (with_reducible repeat (first | refine blk_drewN ?_ _ | refine blk_drew ?_ | refine blk_alloc ?_ _)); refine blk_far ?_ NB439_447.out _; (with_reducible repeat (first | refine blk_drewN ?_ _ | refine blk_drew ?_ | refine blk_alloc ?_ _)); refine blk_far ?_ NB439_447.out _; (with_reducible repeat (first | refine blk_drewN ?_ _ | refine blk_drew ?_ | refine blk_alloc ?_ _)); exact BK439.out) hb); have n4_ := Aside0.mk (blk_below (g := gb447) (o := .cells #[.int .i64 t440, .int .i64 t441, .int .i64 t442, .int .i64 t443, .int .i64 t444, .int .i64 t445] 25 (0, 0)) (by (with_reducible repeat (first | refine blk_drewN ?_ _ | refine blk_drew ?_ | refine blk_alloc ?_ _)); refine blk_put (cs := #[.int .i64 t440, .int .i64 t441, .int .i64 t442, .int .i64 t443, .int .i64 t444, .int .i64 0]) ?_ 5 _ rfl; (with_reducible repeat (first | refine blk_drewN ?_ _ | refine blk_drew ?_ | refine blk_alloc ?_ _)); refine blk_put (cs := #[.int .i64 t440, .int .i64 t441, .int .i64 t442, .int .i64 t443, .int .i64 0, .int .i64 0]) ?_ 4 _ rfl; (with_reducible repeat (first | refine blk_drewN ?_ _ | refine blk_drew ?_ | refine blk_alloc ?_ _)); refine blk_put (cs := #[.int .i64 t440, .int .i64 t441, .int .i64 t442, .int .i64 0, .int .i64 0, .int .i64 0]) ?_ 3 _ rfl; (with_reducible repeat (first | refine blk_drewN ?_ _ | refine blk_drew ?_ | refine blk_alloc ?_ _)); refine blk_put (cs := #[.int .i64 t440, .int .i64 t441, .int .i64 0, .int .i64 0, .int .i64 0, .int .i64 0]) ?_ 2 _ rfl; (with_reducible repeat (first | refine blk_drewN ?_ _ | refine blk_drew ?_ | refine blk_alloc ?_ _)); refine blk_put (cs := #[.int .i64 t440, .int .i64 0, .int .i64 0, .int .i64 0, .int .i64 0, .int .i64 0]) ?_ 1 _ rfl; (with_reducible repeat (first | refine blk_drewN ?_ _ | refine blk_drew ?_ | refine blk_alloc ?_ _)); refine blk_put (cs := #[.int .i64 0, .int .i64 0, .int .i64 0, .int .i64 0, .int .i64 0, .int .i64 0]) ?_ 0 _ rfl; (with_reducible repeat (first | refine blk_drewN ?_ _ | refine blk_drew ?_ | refine blk_alloc ?_ _)); exact BK447.out) hb); have n5_ := Aside0.mk (below_step (by repeat (first | (with_reducible first | exact HB.out | apply below_alloc | apply pw_below_drewN | apply below_drew1 | refine below_set ?_ GE422.out | refine below_set ?_ GE423.out | refine below_set ?_ GE431.out | refine below_set ?_ GE439.out | refine below_set ?_ GE447.out) | exact HB.out)) hb); clear BK422; clear BK423; clear BK431; clear BK439; clear BK447; clear HB; have BK422 := n0_; have BK423 := n1_; have BK431 := n2_; have BK439 := n3_; have BK447 := n4_; have HB := n5_; clear n0_ n1_ n2_ n3_ n4_ n5_; (try clear hb); (try clear hb2); (try clear hk); (try clear hi)))
        go_meet
        case rel => exact ⟨_, (true), (by first | rfl | (simp; done) | (simp [*]; done)), H', ⟨by first | omega | exact Nat.le_refl _⟩, ⟨by (with_reducible repeat (first | refine blk_drewN ?_ _ | refine blk_drew ?_ | refine blk_alloc ?_ _)); exact BK422.out⟩, ⟨by (with_reducible repeat (first | refine blk_drewN ?_ _ | refine blk_drew ?_ | refine blk_alloc ?_ _)); exact BK423.out⟩, ⟨by (with_reducible repeat (first | refine blk_drewN ?_ _ | refine blk_drew ?_ | refine blk_alloc ?_ _)); exact BK431.out⟩, ⟨by (with_reducible repeat (first | refine blk_drewN ?_ _ | refine blk_drew ?_ | refine blk_alloc ?_ _)); exact BK439.out⟩, ⟨by (with_reducible repeat (first | refine blk_drewN ?_ _ | refine blk_drew ?_ | refine blk_alloc ?_ _)); exact BK447.out⟩, ⟨by repeat (first | (with_reducible first | exact HB.out | apply below_alloc | apply pw_below_drewN | apply below_drew1 | refine below_set ?_ GE422.out | refine below_set ?_ GE423.out | refine below_set ?_ GE431.out | refine below_set ?_ GE439.out | refine below_set ?_ GE447.out) | exact HB.out)⟩⟩
    · rw [if_neg c35] at H
      have c35b0 : (t430 == 0) = false := beq_eq_false_iff_ne.mpr c35
      have c35b1 : (t430 != 0) = true := bne_iff_ne.mpr c35
      (first | rw [c35b0] | (simp only [i64_w, i32_w]; rw [c35b0]) | skip)
      have H' := Aside0.mk H
      clear H
      go_wp2
      go_meet
      case rel => exact ⟨_, (false), (by first | rfl | (simp; done) | (simp [*]; done)), H', ⟨by first | omega | exact Nat.le_refl _⟩, ⟨by (with_reducible repeat (first | refine blk_drewN ?_ _ | refine blk_drew ?_ | refine blk_alloc ?_ _)); refine blk_far ?_ NB422_447.out _; (with_reducible repeat (first | refine blk_drewN ?_ _ | refine blk_drew ?_ | refine blk_alloc ?_ _)); refine blk_far ?_ NB422_447.out _; (with_reducible repeat (first | refine blk_drewN ?_ _ | refine blk_drew ?_ | refine blk_alloc ?_ _)); refine blk_far ?_ NB422_447.out _; (with_reducible repeat (first | refine blk_drewN ?_ _ | refine blk_drew ?_ | refine blk_alloc ?_ _)); refine blk_far ?_ NB422_447.out _; (with_reducible repeat (first | refine blk_drewN ?_ _ | refine blk_drew ?_ | refine blk_alloc ?_ _)); refine blk_far ?_ NB422_447.out _; (with_reducible repeat (first | refine blk_drewN ?_ _ | refine blk_drew ?_ | refine blk_alloc ?_ _)); refine blk_far ?_ NB422_447.out _; (with_reducible repeat (first | refine blk_drewN ?_ _ | refine blk_drew ?_ | refine blk_alloc ?_ _)); exact BK422.out⟩, ⟨by (with_reducible repeat (first | refine blk_drewN ?_ _ | refine blk_drew ?_ | refine blk_alloc ?_ _)); refine blk_far ?_ NB423_447.out _; (with_reducible repeat (first | refine blk_drewN ?_ _ | refine blk_drew ?_ | refine blk_alloc ?_ _)); refine blk_far ?_ NB423_447.out _; (with_reducible repeat (first | refine blk_drewN ?_ _ | refine blk_drew ?_ | refine blk_alloc ?_ _)); refine blk_far ?_ NB423_447.out _; (with_reducible repeat (first | refine blk_drewN ?_ _ | refine blk_drew ?_ | refine blk_alloc ?_ _)); refine blk_far ?_ NB423_447.out _; (with_reducible repeat (first | refine blk_drewN ?_ _ | refine blk_drew ?_ | refine blk_alloc ?_ _)); refine blk_far ?_ NB423_447.out _; (with_reducible repeat (first | refine blk_drewN ?_ _ | refine blk_drew ?_ | refine blk_alloc ?_ _)); refine blk_far ?_ NB423_447.out _; (with_reducible repeat (first | refine blk_drewN ?_ _ | refine blk_drew ?_ | refine blk_alloc ?_ _)); exact BK423.out⟩, ⟨by (with_reducible repeat (first | refine blk_drewN ?_ _ | refine blk_drew ?_ | refine blk_alloc ?_ _)); refine blk_far ?_ NB431_447.out _; (with_reducible repeat (first | refine blk_drewN ?_ _ | refine blk_drew ?_ | refine blk_alloc ?_ _)); refine blk_far ?_ NB431_447.out _; (with_reducible repeat (first | refine blk_drewN ?_ _ | refine blk_drew ?_ | refine blk_alloc ?_ _)); refine blk_far ?_ NB431_447.out _; (with_reducible repeat (first | refine blk_drewN ?_ _ | refine blk_drew ?_ | refine blk_alloc ?_ _)); refine blk_far ?_ NB431_447.out _; (with_reducible repeat (first | refine blk_drewN ?_ _ | refine blk_drew ?_ | refine blk_alloc ?_ _)); refine blk_far ?_ NB431_447.out _; (with_reducible repeat (first | refine blk_drewN ?_ _ | refine blk_drew ?_ | refine blk_alloc ?_ _)); refine blk_far ?_ NB431_447.out _; (with_reducible repeat (first | refine blk_drewN ?_ _ | refine blk_drew ?_ | refine blk_alloc ?_ _)); exact BK431.out⟩, ⟨by (with_reducible repeat (first | refine blk_drewN ?_ _ | refine blk_drew ?_ | refine blk_alloc ?_ _)); refine blk_far ?_ NB439_447.out _; (with_reducible repeat (first | refine blk_drewN ?_ _ | refine blk_drew ?_ | refine blk_alloc ?_ _)); refine blk_far ?_ NB439_447.out _; (with_reducible repeat (first | refine blk_drewN ?_ _ | refine blk_drew ?_ | refine blk_alloc ?_ _)); refine blk_far ?_ NB439_447.out _; (with_reducible repeat (first | refine blk_drewN ?_ _ | refine blk_drew ?_ | refine blk_alloc ?_ _)); refine blk_far ?_ NB439_447.out _; (with_reducible repeat (first | refine blk_drewN ?_ _ | refine blk_drew ?_ | refine blk_alloc ?_ _)); refine blk_far ?_ NB439_447.out _; (with_reducible repeat (first | refine blk_drewN ?_ _ | refine blk_drew ?_ | refine blk_alloc ?_ _)); refine blk_far ?_ NB439_447.out _; (with_reducible repeat (first | refine blk_drewN ?_ _ | refine blk_drew ?_ | refine blk_alloc ?_ _)); exact BK439.out⟩, ⟨by (with_reducible repeat (first | refine blk_drewN ?_ _ | refine blk_drew ?_ | refine blk_alloc ?_ _)); refine blk_put (cs := #[.int .i64 t440, .int .i64 t441, .int .i64 t442, .int .i64 t443, .int .i64 t444, .int .i64 0]) ?_ 5 _ rfl; (with_reducible repeat (first | refine blk_drewN ?_ _ | refine blk_drew ?_ | refine blk_alloc ?_ _)); refine blk_put (cs := #[.int .i64 t440, .int .i64 t441, .int .i64 t442, .int .i64 t443, .int .i64 0, .int .i64 0]) ?_ 4 _ rfl; (with_reducible repeat (first | refine blk_drewN ?_ _ | refine blk_drew ?_ | refine blk_alloc ?_ _)); refine blk_put (cs := #[.int .i64 t440, .int .i64 t441, .int .i64 t442, .int .i64 0, .int .i64 0, .int .i64 0]) ?_ 3 _ rfl; (with_reducible repeat (first | refine blk_drewN ?_ _ | refine blk_drew ?_ | refine blk_alloc ?_ _)); refine blk_put (cs := #[.int .i64 t440, .int .i64 t441, .int .i64 0, .int .i64 0, .int .i64 0, .int .i64 0]) ?_ 2 _ rfl; (with_reducible repeat (first | refine blk_drewN ?_ _ | refine blk_drew ?_ | refine blk_alloc ?_ _)); refine blk_put (cs := #[.int .i64 t440, .int .i64 0, .int .i64 0, .int .i64 0, .int .i64 0, .int .i64 0]) ?_ 1 _ rfl; (with_reducible repeat (first | refine blk_drewN ?_ _ | refine blk_drew ?_ | refine blk_alloc ?_ _)); refine blk_put (cs := #[.int .i64 0, .int .i64 0, .int .i64 0, .int .i64 0, .int .i64 0, .int .i64 0]) ?_ 0 _ rfl; (with_reducible repeat (first | refine blk_drewN ?_ _ | refine blk_drew ?_ | refine blk_alloc ?_ _)); exact BK447.out⟩, ⟨by repeat (first | (with_reducible first | exact HB.out | apply below_alloc | apply pw_below_drewN | apply below_drew1 | refine below_set ?_ GE422.out | refine below_set ?_ GE423.out | refine below_set ?_ GE431.out | refine below_set ?_ GE439.out | refine below_set ?_ GE447.out) | exact HB.out)⟩⟩
  case rest =>
    clear HC10
    try clear c1
    try clear c2
    try clear p2
    try clear c3
    try clear c4
    try clear c5
    try clear c6
    try clear c7
    try clear c9
    try clear c13
    try clear c15
    try clear c17
    try clear c18
    try clear c23
    try clear c24
    try clear c25
    try clear c30
    try clear c31
    try clear c32
    try clear c33
    try clear c35
    try clear c35b0
    try clear c35b1
    try clear c37
    try clear c38
    try clear c38b0
    try clear c39
    try clear c40
    try clear c41
    try clear c42
    try clear c46
    try clear c47
    try clear c48
    try clear c50
    try clear c51
    try clear c52
    try clear c53
    try clear c57
    try clear c58
    try clear c59
    try clear c61
    try clear c62
    try clear c63
    try clear c64
    try clear hcz14_0
    try clear hcz14_1
    try clear hcz19_0
    try clear hcz19_1
    try clear hcz19_2
    try clear hcz19_3
    try clear hcz19_4
    try clear hcz19_5
    try clear hcz20_0
    try clear hcz20_1
    try clear hcz20_2
    try clear hcz20_3
    try clear hcz20_4
    try clear hcz20_5
    try clear hcz26_0
    try clear hcz26_1
    try clear hcz26_2
    try clear hcz26_3
    try clear hcz26_4
    try clear hcz26_5
    try clear hcz27_0
    try clear hcz27_1
    try clear hcz27_2
    try clear hcz27_3
    try clear hcz27_4
    try clear hcz27_5
    try clear hcz34_0
    try clear hcz34_1
    try clear hcz34_2
    try clear hcz34_3
    try clear hcz34_4
    try clear hcz34_5
    try clear hcz43_0
    try clear hcz43_1
    try clear hcz43_2
    try clear hcz43_3
    try clear hcz43_4
    try clear hcz43_5
    try clear hcz45_0
    try clear hcz45_1
    try clear hcz45_2
    try clear hcz45_3
    try clear hcz45_4
    try clear hcz45_5
    try clear hcz49_0
    try clear hcz49_1
    try clear hcz54_0
    try clear hcz54_1
    try clear hcz54_2
    try clear hcz54_3
    try clear hcz54_4
    try clear hcz54_5
    try clear hcz56_0
    try clear hcz56_1
    try clear hcz56_2
    try clear hcz56_3
    try clear hcz56_4
    try clear hcz56_5
    try clear hcz60_0
    try clear hcz60_1
    try clear hcz65_0
    try clear hcz65_1
    try clear hcz65_2
    try clear hcz65_3
    try clear hcz65_4
    try clear hcz65_5
    try clear hfz14_0
    try clear hfz14_1
    try clear hfz19_0
    try clear hfz19_1
    try clear hfz19_2
    try clear hfz19_3
    try clear hfz19_4
    try clear hfz19_5
    try clear hfz20_0
    try clear hfz20_1
    try clear hfz20_2
    try clear hfz20_3
    try clear hfz20_4
    try clear hfz20_5
    try clear hfz26_0
    try clear hfz26_1
    try clear hfz26_2
    try clear hfz26_3
    try clear hfz26_4
    try clear hfz26_5
    try clear hfz27_0
    try clear hfz27_1
    try clear hfz27_2
    try clear hfz27_3
    try clear hfz27_4
    try clear hfz27_5
    try clear hfz34_0
    try clear hfz34_1
    try clear hfz34_2
    try clear hfz34_3
    try clear hfz34_4
    try clear hfz34_5
    try clear hfz43_0
    try clear hfz43_1
    try clear hfz43_2
    try clear hfz43_3
    try clear hfz43_4
    try clear hfz43_5
    try clear hfz45_0
    try clear hfz45_1
    try clear hfz45_2
    try clear hfz45_3
    try clear hfz45_4
    try clear hfz45_5
    try clear hfz49_0
    try clear hfz49_1
    try clear hfz54_0
    try clear hfz54_1
    try clear hfz54_2
    try clear hfz54_3
    try clear hfz54_4
    try clear hfz54_5
    try clear hfz56_0
    try clear hfz56_1
    try clear hfz56_2
    try clear hfz56_3
    try clear hfz56_4
    try clear hfz56_5
    try clear hfz60_0
    try clear hfz60_1
    try clear hfz65_0
    try clear hfz65_1
    try clear hfz65_2
    try clear hfz65_3
    try clear hfz65_4
    try clear hfz65_5
    obtain ⟨kq, x59_9, rfl, HA, HJ9, BK422, BK423, BK431, BK439, BK447, HB⟩ := hcut
    cases kq with
    | zero => exact absurd HA.out (by simp [watchmanlaw06_AlarmRight.j0])
    | succ kj9 =>
      have H := HA.out
      clear HA
      simp only [watchmanlaw06_AlarmRight.j0] at H
      by_cases c67 : x59_9 = true
      · subst c67
        have H1 : (some false) = some r := by rw [if_pos rfl] at H; exact H
        clear H
        have H := H1
        clear H1
        obtain rfl := Option.some.inj H
        go_wp2
        go_ret
        exact ⟨by first | rfl | (simp [errW_none, errW_some] <;> rfl) | (simp [*, errW_none, errW_some] <;> rfl), by repeat (first | (with_reducible first | exact HB.out | apply below_alloc | apply pw_below_drewN | apply below_drew1 | refine below_set ?_ GE422.out | refine below_set ?_ GE423.out | refine below_set ?_ GE431.out | refine below_set ?_ GE439.out | refine below_set ?_ GE447.out) | exact HB.out)⟩
      · replace c67 := Bool.eq_false_iff.mpr c67
        subst c67
        have H1 : (if t438 = 0 then ((alarm_Is.f t432 t433 t434 t435 t436 t437).bind fun t449 => (if t449 = true then (if (!(t432 == a1_0) || (!(t433 == a1_1))) = true then (watchmanlaw06_AlarmRight.j1 kj9 a4 t446 true a1_0 a1_1 a1_2 a1_3 a1_4 a1_5 t440 t441 t442 t443 t444 t445) else (if t435 > a1_3 then (watchmanlaw06_AlarmRight.j1 kj9 a4 t446 true a1_0 a1_1 a1_2 a1_3 a1_4 a1_5 t440 t441 t442 t443 t444 t445) else (if t435 > a2 then (watchmanlaw06_AlarmRight.j1 kj9 a4 t446 true a1_0 a1_1 a1_2 a1_3 a1_4 a1_5 t440 t441 t442 t443 t444 t445) else (watchmanlaw06_AlarmRight.j1 kj9 a4 t446 (decide (t436 < a1_4)) a1_0 a1_1 a1_2 a1_3 a1_4 a1_5 t440 t441 t442 t443 t444 t445)))) else (watchmanlaw06_AlarmRight.j1 kj9 a4 t446 true a1_0 a1_1 a1_2 a1_3 a1_4 a1_5 t440 t441 t442 t443 t444 t445))) else (watchmanlaw06_AlarmRight.j1 kj9 a4 t446 false a1_0 a1_1 a1_2 a1_3 a1_4 a1_5 t440 t441 t442 t443 t444 t445)) = some r := by rw [if_neg (show ¬ (false = true) by decide)] at H; exact H
        clear H
        have H := H1
        clear H1
        have HC68 := Aside0.mk H
        clear H
        go_upto_region 6 with (fail)
        go_cut [93] (fun v93 wc => ∃ (kq : Nat) (x93_67 : Bool), v93 = .bool x93_67 ∧ Aside0 (watchmanlaw06_AlarmRight.j1 kq a4 t446 x93_67 a1_0 a1_1 a1_2 a1_3 a1_4 a1_5 t440 t441 t442 t443 t444 t445 = some r) ∧ Aside0 (kq ≤ kj9) ∧ Aside0 (wc.heap[gb422]? = some (.cells #[.int .i64 a0_0, .int .i64 a0_1] 23 (0, 0))) ∧ Aside0 (wc.heap[gb423]? = some (.cells #[.int .i64 a1_0, .int .i64 a1_1, .int .i64 a1_2, .int .i64 a1_3, .int .i64 a1_4, .int .i64 a1_5] 25 (0, 0))) ∧ Aside0 (wc.heap[gb431]? = some (.cells #[.int .i64 t424, .int .i64 t425, .int .i64 t426, .int .i64 t427, .int .i64 t428, .int .i64 t429] 25 (0, 0))) ∧ Aside0 (wc.heap[gb439]? = some (.cells #[.int .i64 t432, .int .i64 t433, .int .i64 t434, .int .i64 t435, .int .i64 t436, .int .i64 t437] 25 (0, 0))) ∧ Aside0 (wc.heap[gb447]? = some (.cells #[.int .i64 t440, .int .i64 t441, .int .i64 t442, .int .i64 t443, .int .i64 t444, .int .i64 t445] 25 (0, 0))) ∧ Aside0 (Below w.heap.size w wc))
        case first =>
          have H := HC68.out
          clear HC68
          by_cases c69 : t438 = 0
          · rw [if_pos c69] at H
            have c69b0 : (t438 == 0) = true := beq_iff_eq.mpr c69
            have c69b1 : (t438 != 0) = false := bne_eq_false_iff_eq.mpr c69
            clear c69
            (first | rw [c69b0] | (simp only [i64_w, i32_w]; rw [c69b0]) | skip)
            replace H := Option.bind_eq_some_iff.mp H
            obtain ⟨t449, A700, H⟩ := H
            replace H : (if t449 = true then (if (!(t432 == a1_0) || (!(t433 == a1_1))) = true then (watchmanlaw06_AlarmRight.j1 kj9 a4 t446 true a1_0 a1_1 a1_2 a1_3 a1_4 a1_5 t440 t441 t442 t443 t444 t445) else (if t435 > a1_3 then (watchmanlaw06_AlarmRight.j1 kj9 a4 t446 true a1_0 a1_1 a1_2 a1_3 a1_4 a1_5 t440 t441 t442 t443 t444 t445) else (if t435 > a2 then (watchmanlaw06_AlarmRight.j1 kj9 a4 t446 true a1_0 a1_1 a1_2 a1_3 a1_4 a1_5 t440 t441 t442 t443 t444 t445) else (watchmanlaw06_AlarmRight.j1 kj9 a4 t446 (decide (t436 < a1_4)) a1_0 a1_1 a1_2 a1_3 a1_4 a1_5 t440 t441 t442 t443 t444 t445)))) else (watchmanlaw06_AlarmRight.j1 kj9 a4 t446 true a1_0 a1_1 a1_2 a1_3 a1_4 a1_5 t440 t441 t442 t443 t444 t445)) = some r := H
            have A70 := Aside0.mk A700
            clear A700
            by_cases c71 : t449 = true
            · subst c71
              have H1 : (if (!(t432 == a1_0) || (!(t433 == a1_1))) = true then (watchmanlaw06_AlarmRight.j1 kj9 a4 t446 true a1_0 a1_1 a1_2 a1_3 a1_4 a1_5 t440 t441 t442 t443 t444 t445) else (if t435 > a1_3 then (watchmanlaw06_AlarmRight.j1 kj9 a4 t446 true a1_0 a1_1 a1_2 a1_3 a1_4 a1_5 t440 t441 t442 t443 t444 t445) else (if t435 > a2 then (watchmanlaw06_AlarmRight.j1 kj9 a4 t446 true a1_0 a1_1 a1_2 a1_3 a1_4 a1_5 t440 t441 t442 t443 t444 t445) else (watchmanlaw06_AlarmRight.j1 kj9 a4 t446 (decide (t436 < a1_4)) a1_0 a1_1 a1_2 a1_3 a1_4 a1_5 t440 t441 t442 t443 t444 t445)))) = some r := by rw [if_pos rfl] at H; exact H
              clear H
              have H := H1
              clear H1
              by_cases c72 : (!(t432 == a1_0) || (!(t433 == a1_1))) = true
              · rw [if_pos c72] at H
                have c72b0 : (!(t432 == a1_0) || (!(t433 == a1_1))) = true := c72
                clear c72
                have H' := Aside0.mk H
                clear H
                have hnb73 := NB439_422.out
                have hnc73 := NB422_439.out
                have hnb74 := NB439_423.out
                have hnc74 := NB423_439.out
                have hnb75 := NB439_431.out
                have hnc75 := NB431_439.out
                have hnb76 := NB439_447.out
                have hnc76 := NB447_439.out
                have hcz77_0 : wc.cell? ⟨gb439, 0, none⟩ = some (.int .i64 t432) := (blk_cell BK439.out 0).trans rfl
                have hcz77_1 : wc.cell? ⟨gb439, 1, none⟩ = some (.int .i64 t433) := (blk_cell BK439.out 1).trans rfl
                have hcz77_2 : wc.cell? ⟨gb439, 2, none⟩ = some (.int .i64 t434) := (blk_cell BK439.out 2).trans rfl
                have hcz77_3 : wc.cell? ⟨gb439, 3, none⟩ = some (.int .i64 t435) := (blk_cell BK439.out 3).trans rfl
                have hcz77_4 : wc.cell? ⟨gb439, 4, none⟩ = some (.int .i64 t436) := (blk_cell BK439.out 4).trans rfl
                have hcz77_5 : wc.cell? ⟨gb439, 5, none⟩ = some (.int .i64 t437) := (blk_cell BK439.out 5).trans rfl
                have hfz77_0 := blk_frozen BK439.out 0
                have hfz77_1 := blk_frozen BK439.out 1
                have hfz77_2 := blk_frozen BK439.out 2
                have hfz77_3 := blk_frozen BK439.out 3
                have hfz77_4 := blk_frozen BK439.out 4
                have hfz77_5 := blk_frozen BK439.out 5
                go_wp2_with (first | (go_at_call 14; (with_reducible refine (alarm_Is.calls t432 t433 t434 t435 t436 t437 true _ A70.out).mono ?_); rintro e w78 ⟨rfl, hb⟩; have n0_ := Aside0.mk (blk_below (g := gb422) (o := .cells #[.int .i64 a0_0, .int .i64 a0_1] 23 (0, 0)) (by (with_reducible repeat (first | refine blk_drewN ?_ _ | refine blk_drew ?_ | refine blk_alloc ?_ _)); exact BK422.out) hb); have n1_ := Aside0.mk (blk_below (g := gb423) (o := .cells #[.int .i64 a1_0, .int .i64 a1_1, .int .i64 a1_2, .int .i64 a1_3, .int .i64 a1_4, .int .i64 a1_5] 25 (0, 0)) (by (with_reducible repeat (first | refine blk_drewN ?_ _ | refine blk_drew ?_ | refine blk_alloc ?_ _)); exact BK423.out) hb); have n2_ := Aside0.mk (blk_below (g := gb431) (o := .cells #[.int .i64 t424, .int .i64 t425, .int .i64 t426, .int .i64 t427, .int .i64 t428, .int .i64 t429] 25 (0, 0)) (by (with_reducible repeat (first | refine blk_drewN ?_ _ | refine blk_drew ?_ | refine blk_alloc ?_ _)); exact BK431.out) hb); have n3_ := Aside0.mk (blk_below (g := gb439) (o := .cells #[.int .i64 t432, .int .i64 t433, .int .i64 t434, .int .i64 t435, .int .i64 t436, .int .i64 t437] 25 (0, 0)) (by (with_reducible repeat (first | refine blk_drewN ?_ _ | refine blk_drew ?_ | refine blk_alloc ?_ _)); exact BK439.out) hb); have n4_ := Aside0.mk (blk_below (g := gb447) (o := .cells #[.int .i64 t440, .int .i64 t441, .int .i64 t442, .int .i64 t443, .int .i64 t444, .int .i64 t445] 25 (0, 0)) (by (with_reducible repeat (first | refine blk_drewN ?_ _ | refine blk_drew ?_ | refine blk_alloc ?_ _)); exact BK447.out) hb); have n5_ := Aside0.mk (below_step (by repeat (first | (with_reducible first | exact HB.out | apply below_alloc | apply pw_below_drewN | apply below_drew1 | refine below_set ?_ GE422.out | refine below_set ?_ GE423.out | refine below_set ?_ GE431.out | refine below_set ?_ GE439.out | refine below_set ?_ GE447.out) | exact HB.out)) hb); clear BK422; clear BK423; clear BK431; clear BK439; clear BK447; clear HB; have BK422 := n0_; have BK423 := n1_; have BK431 := n2_; have BK439 := n3_; have BK447 := n4_; have HB := n5_; clear n0_ n1_ n2_ n3_ n4_ n5_; (try clear hb); (try clear hb2); (try clear hk); (try clear hi); have hcz79_0 : w78.cell? ⟨gb439, 0, none⟩ = some (.int .i64 t432) := (blk_cell BK439.out 0).trans rfl; have hcz79_1 : w78.cell? ⟨gb439, 1, none⟩ = some (.int .i64 t433) := (blk_cell BK439.out 1).trans rfl; have hcz79_2 : w78.cell? ⟨gb439, 2, none⟩ = some (.int .i64 t434) := (blk_cell BK439.out 2).trans rfl; have hcz79_3 : w78.cell? ⟨gb439, 3, none⟩ = some (.int .i64 t435) := (blk_cell BK439.out 3).trans rfl; have hcz79_4 : w78.cell? ⟨gb439, 4, none⟩ = some (.int .i64 t436) := (blk_cell BK439.out 4).trans rfl; have hcz79_5 : w78.cell? ⟨gb439, 5, none⟩ = some (.int .i64 t437) := (blk_cell BK439.out 5).trans rfl; have hfz79_0 := blk_frozen BK439.out 0; have hfz79_1 := blk_frozen BK439.out 1; have hfz79_2 := blk_frozen BK439.out 2; have hfz79_3 := blk_frozen BK439.out 3; have hfz79_4 := blk_frozen BK439.out 4; have hfz79_5 := blk_frozen BK439.out 5; have hnb80 := NB423_422.out; have hnc80 := NB422_423.out; have hnb81 := NB423_431.out; have hnc81 := NB431_423.out; have hnb82 := NB423_447.out; have hnc82 := NB447_423.out; have hcz83_0 : w78.cell? ⟨gb423, 0, none⟩ = some (.int .i64 a1_0) := (blk_cell BK423.out 0).trans rfl; have hcz83_1 : w78.cell? ⟨gb423, 1, none⟩ = some (.int .i64 a1_1) := (blk_cell BK423.out 1).trans rfl; have hcz83_2 : w78.cell? ⟨gb423, 2, none⟩ = some (.int .i64 a1_2) := (blk_cell BK423.out 2).trans rfl; have hcz83_3 : w78.cell? ⟨gb423, 3, none⟩ = some (.int .i64 a1_3) := (blk_cell BK423.out 3).trans rfl; have hcz83_4 : w78.cell? ⟨gb423, 4, none⟩ = some (.int .i64 a1_4) := (blk_cell BK423.out 4).trans rfl; have hcz83_5 : w78.cell? ⟨gb423, 5, none⟩ = some (.int .i64 a1_5) := (blk_cell BK423.out 5).trans rfl; have hfz83_0 := blk_frozen BK423.out 0; have hfz83_1 := blk_frozen BK423.out 1; have hfz83_2 := blk_frozen BK423.out 2; have hfz83_3 := blk_frozen BK423.out 3; have hfz83_4 := blk_frozen BK423.out 4; have hfz83_5 := blk_frozen BK423.out 5))
                go_meet
                case rel => exact ⟨_, (true), (by first | rfl | (simp; done) | (simp [*]; done)), H', ⟨by have := HJ9.out; first | omega | exact Nat.le_refl _⟩, ⟨by (with_reducible repeat (first | refine blk_drewN ?_ _ | refine blk_drew ?_ | refine blk_alloc ?_ _)); exact BK422.out⟩, ⟨by (with_reducible repeat (first | refine blk_drewN ?_ _ | refine blk_drew ?_ | refine blk_alloc ?_ _)); exact BK423.out⟩, ⟨by (with_reducible repeat (first | refine blk_drewN ?_ _ | refine blk_drew ?_ | refine blk_alloc ?_ _)); exact BK431.out⟩, ⟨by (with_reducible repeat (first | refine blk_drewN ?_ _ | refine blk_drew ?_ | refine blk_alloc ?_ _)); exact BK439.out⟩, ⟨by (with_reducible repeat (first | refine blk_drewN ?_ _ | refine blk_drew ?_ | refine blk_alloc ?_ _)); exact BK447.out⟩, ⟨by repeat (first | (with_reducible first | exact HB.out | apply below_alloc | apply pw_below_drewN | apply below_drew1 | refine below_set ?_ GE422.out | refine below_set ?_ GE423.out | refine below_set ?_ GE431.out | refine below_set ?_ GE439.out | refine below_set ?_ GE447.out) | exact HB.out)⟩⟩
              · rw [if_neg c72] at H
                have c72b0 : (!(t432 == a1_0) || (!(t433 == a1_1))) = false := by simpa using c72
                clear c72
                by_cases c84 : t435 > a1_3
                · rw [if_pos c84] at H
                  have c84b0 : decide (a1_3 < t435) = true := decide_eq_true c84
                  clear c84
                  have H' := Aside0.mk H
                  clear H
                  have hnb85 := NB439_422.out
                  have hnc85 := NB422_439.out
                  have hnb86 := NB439_423.out
                  have hnc86 := NB423_439.out
                  have hnb87 := NB439_431.out
                  have hnc87 := NB431_439.out
                  have hnb88 := NB439_447.out
                  have hnc88 := NB447_439.out
                  have hcz89_0 : wc.cell? ⟨gb439, 0, none⟩ = some (.int .i64 t432) := (blk_cell BK439.out 0).trans rfl
                  have hcz89_1 : wc.cell? ⟨gb439, 1, none⟩ = some (.int .i64 t433) := (blk_cell BK439.out 1).trans rfl
                  have hcz89_2 : wc.cell? ⟨gb439, 2, none⟩ = some (.int .i64 t434) := (blk_cell BK439.out 2).trans rfl
                  have hcz89_3 : wc.cell? ⟨gb439, 3, none⟩ = some (.int .i64 t435) := (blk_cell BK439.out 3).trans rfl
                  have hcz89_4 : wc.cell? ⟨gb439, 4, none⟩ = some (.int .i64 t436) := (blk_cell BK439.out 4).trans rfl
                  have hcz89_5 : wc.cell? ⟨gb439, 5, none⟩ = some (.int .i64 t437) := (blk_cell BK439.out 5).trans rfl
                  have hfz89_0 := blk_frozen BK439.out 0
                  have hfz89_1 := blk_frozen BK439.out 1
                  have hfz89_2 := blk_frozen BK439.out 2
                  have hfz89_3 := blk_frozen BK439.out 3
                  have hfz89_4 := blk_frozen BK439.out 4
                  have hfz89_5 := blk_frozen BK439.out 5
                  go_wp2_with (first | (go_at_call 14; (with_reducible refine (alarm_Is.calls t432 t433 t434 t435 t436 t437 true _ A70.out).mono ?_); rintro e w90 ⟨rfl, hb⟩; have n0_ := Aside0.mk (blk_below (g := gb422) (o := .cells #[.int .i64 a0_0, .int .i64 a0_1] 23 (0, 0)) (by (with_reducible repeat (first | refine blk_drewN ?_ _ | refine blk_drew ?_ | refine blk_alloc ?_ _)); exact BK422.out) hb); have n1_ := Aside0.mk (blk_below (g := gb423) (o := .cells #[.int .i64 a1_0, .int .i64 a1_1, .int .i64 a1_2, .int .i64 a1_3, .int .i64 a1_4, .int .i64 a1_5] 25 (0, 0)) (by (with_reducible repeat (first | refine blk_drewN ?_ _ | refine blk_drew ?_ | refine blk_alloc ?_ _)); exact BK423.out) hb); have n2_ := Aside0.mk (blk_below (g := gb431) (o := .cells #[.int .i64 t424, .int .i64 t425, .int .i64 t426, .int .i64 t427, .int .i64 t428, .int .i64 t429] 25 (0, 0)) (by (with_reducible repeat (first | refine blk_drewN ?_ _ | refine blk_drew ?_ | refine blk_alloc ?_ _)); exact BK431.out) hb); have n3_ := Aside0.mk (blk_below (g := gb439) (o := .cells #[.int .i64 t432, .int .i64 t433, .int .i64 t434, .int .i64 t435, .int .i64 t436, .int .i64 t437] 25 (0, 0)) (by (with_reducible repeat (first | refine blk_drewN ?_ _ | refine blk_drew ?_ | refine blk_alloc ?_ _)); exact BK439.out) hb); have n4_ := Aside0.mk (blk_below (g := gb447) (o := .cells #[.int .i64 t440, .int .i64 t441, .int .i64 t442, .int .i64 t443, .int .i64 t444, .int .i64 t445] 25 (0, 0)) (by (with_reducible repeat (first | refine blk_drewN ?_ _ | refine blk_drew ?_ | refine blk_alloc ?_ _)); exact BK447.out) hb); have n5_ := Aside0.mk (below_step (by repeat (first | (with_reducible first | exact HB.out | apply below_alloc | apply pw_below_drewN | apply below_drew1 | refine below_set ?_ GE422.out | refine below_set ?_ GE423.out | refine below_set ?_ GE431.out | refine below_set ?_ GE439.out | refine below_set ?_ GE447.out) | exact HB.out)) hb); clear BK422; clear BK423; clear BK431; clear BK439; clear BK447; clear HB; have BK422 := n0_; have BK423 := n1_; have BK431 := n2_; have BK439 := n3_; have BK447 := n4_; have HB := n5_; clear n0_ n1_ n2_ n3_ n4_ n5_; (try clear hb); (try clear hb2); (try clear hk); (try clear hi); have hcz91_0 : w90.cell? ⟨gb439, 0, none⟩ = some (.int .i64 t432) := (blk_cell BK439.out 0).trans rfl; have hcz91_1 : w90.cell? ⟨gb439, 1, none⟩ = some (.int .i64 t433) := (blk_cell BK439.out 1).trans rfl; have hcz91_2 : w90.cell? ⟨gb439, 2, none⟩ = some (.int .i64 t434) := (blk_cell BK439.out 2).trans rfl; have hcz91_3 : w90.cell? ⟨gb439, 3, none⟩ = some (.int .i64 t435) := (blk_cell BK439.out 3).trans rfl; have hcz91_4 : w90.cell? ⟨gb439, 4, none⟩ = some (.int .i64 t436) := (blk_cell BK439.out 4).trans rfl; have hcz91_5 : w90.cell? ⟨gb439, 5, none⟩ = some (.int .i64 t437) := (blk_cell BK439.out 5).trans rfl; have hfz91_0 := blk_frozen BK439.out 0; have hfz91_1 := blk_frozen BK439.out 1; have hfz91_2 := blk_frozen BK439.out 2; have hfz91_3 := blk_frozen BK439.out 3; have hfz91_4 := blk_frozen BK439.out 4; have hfz91_5 := blk_frozen BK439.out 5; have hnb92 := NB423_422.out; have hnc92 := NB422_423.out; have hnb93 := NB423_431.out; have hnc93 := NB431_423.out; have hnb94 := NB423_447.out; have hnc94 := NB447_423.out; have hcz95_0 : w90.cell? ⟨gb423, 0, none⟩ = some (.int .i64 a1_0) := (blk_cell BK423.out 0).trans rfl; have hcz95_1 : w90.cell? ⟨gb423, 1, none⟩ = some (.int .i64 a1_1) := (blk_cell BK423.out 1).trans rfl; have hcz95_2 : w90.cell? ⟨gb423, 2, none⟩ = some (.int .i64 a1_2) := (blk_cell BK423.out 2).trans rfl; have hcz95_3 : w90.cell? ⟨gb423, 3, none⟩ = some (.int .i64 a1_3) := (blk_cell BK423.out 3).trans rfl; have hcz95_4 : w90.cell? ⟨gb423, 4, none⟩ = some (.int .i64 a1_4) := (blk_cell BK423.out 4).trans rfl; have hcz95_5 : w90.cell? ⟨gb423, 5, none⟩ = some (.int .i64 a1_5) := (blk_cell BK423.out 5).trans rfl; have hfz95_0 := blk_frozen BK423.out 0; have hfz95_1 := blk_frozen BK423.out 1; have hfz95_2 := blk_frozen BK423.out 2; have hfz95_3 := blk_frozen BK423.out 3; have hfz95_4 := blk_frozen BK423.out 4; have hfz95_5 := blk_frozen BK423.out 5))
                  go_meet
                  case rel => exact ⟨_, (true), (by first | rfl | (simp; done) | (simp [*]; done)), H', ⟨by have := HJ9.out; first | omega | exact Nat.le_refl _⟩, ⟨by (with_reducible repeat (first | refine blk_drewN ?_ _ | refine blk_drew ?_ | refine blk_alloc ?_ _)); exact BK422.out⟩, ⟨by (with_reducible repeat (first | refine blk_drewN ?_ _ | refine blk_drew ?_ | refine blk_alloc ?_ _)); exact BK423.out⟩, ⟨by (with_reducible repeat (first | refine blk_drewN ?_ _ | refine blk_drew ?_ | refine blk_alloc ?_ _)); exact BK431.out⟩, ⟨by (with_reducible repeat (first | refine blk_drewN ?_ _ | refine blk_drew ?_ | refine blk_alloc ?_ _)); exact BK439.out⟩, ⟨by (with_reducible repeat (first | refine blk_drewN ?_ _ | refine blk_drew ?_ | refine blk_alloc ?_ _)); exact BK447.out⟩, ⟨by repeat (first | (with_reducible first | exact HB.out | apply below_alloc | apply pw_below_drewN | apply below_drew1 | refine below_set ?_ GE422.out | refine below_set ?_ GE423.out | refine below_set ?_ GE431.out | refine below_set ?_ GE439.out | refine below_set ?_ GE447.out) | exact HB.out)⟩⟩
                · rw [if_neg c84] at H
                  have c84b0 : decide (a1_3 < t435) = false := decide_eq_false c84
                  clear c84
                  by_cases c96 : t435 > a2
                  · rw [if_pos c96] at H
                    have c96b0 : decide (a2 < t435) = true := decide_eq_true c96
                    clear c96
                    have H' := Aside0.mk H
                    clear H
                    have hnb97 := NB439_422.out
                    have hnc97 := NB422_439.out
                    have hnb98 := NB439_423.out
                    have hnc98 := NB423_439.out
                    have hnb99 := NB439_431.out
                    have hnc99 := NB431_439.out
                    have hnb100 := NB439_447.out
                    have hnc100 := NB447_439.out
                    have hcz101_0 : wc.cell? ⟨gb439, 0, none⟩ = some (.int .i64 t432) := (blk_cell BK439.out 0).trans rfl
                    have hcz101_1 : wc.cell? ⟨gb439, 1, none⟩ = some (.int .i64 t433) := (blk_cell BK439.out 1).trans rfl
                    have hcz101_2 : wc.cell? ⟨gb439, 2, none⟩ = some (.int .i64 t434) := (blk_cell BK439.out 2).trans rfl
                    have hcz101_3 : wc.cell? ⟨gb439, 3, none⟩ = some (.int .i64 t435) := (blk_cell BK439.out 3).trans rfl
                    have hcz101_4 : wc.cell? ⟨gb439, 4, none⟩ = some (.int .i64 t436) := (blk_cell BK439.out 4).trans rfl
                    have hcz101_5 : wc.cell? ⟨gb439, 5, none⟩ = some (.int .i64 t437) := (blk_cell BK439.out 5).trans rfl
                    have hfz101_0 := blk_frozen BK439.out 0
                    have hfz101_1 := blk_frozen BK439.out 1
                    have hfz101_2 := blk_frozen BK439.out 2
                    have hfz101_3 := blk_frozen BK439.out 3
                    have hfz101_4 := blk_frozen BK439.out 4
                    have hfz101_5 := blk_frozen BK439.out 5
                    go_wp2_with (first | (go_at_call 14; (with_reducible refine (alarm_Is.calls t432 t433 t434 t435 t436 t437 true _ A70.out).mono ?_); rintro e w102 ⟨rfl, hb⟩; have n0_ := Aside0.mk (blk_below (g := gb422) (o := .cells #[.int .i64 a0_0, .int .i64 a0_1] 23 (0, 0)) (by (with_reducible repeat (first | refine blk_drewN ?_ _ | refine blk_drew ?_ | refine blk_alloc ?_ _)); exact BK422.out) hb); have n1_ := Aside0.mk (blk_below (g := gb423) (o := .cells #[.int .i64 a1_0, .int .i64 a1_1, .int .i64 a1_2, .int .i64 a1_3, .int .i64 a1_4, .int .i64 a1_5] 25 (0, 0)) (by (with_reducible repeat (first | refine blk_drewN ?_ _ | refine blk_drew ?_ | refine blk_alloc ?_ _)); exact BK423.out) hb); have n2_ := Aside0.mk (blk_below (g := gb431) (o := .cells #[.int .i64 t424, .int .i64 t425, .int .i64 t426, .int .i64 t427, .int .i64 t428, .int .i64 t429] 25 (0, 0)) (by (with_reducible repeat (first | refine blk_drewN ?_ _ | refine blk_drew ?_ | refine blk_alloc ?_ _)); exact BK431.out) hb); have n3_ := Aside0.mk (blk_below (g := gb439) (o := .cells #[.int .i64 t432, .int .i64 t433, .int .i64 t434, .int .i64 t435, .int .i64 t436, .int .i64 t437] 25 (0, 0)) (by (with_reducible repeat (first | refine blk_drewN ?_ _ | refine blk_drew ?_ | refine blk_alloc ?_ _)); exact BK439.out) hb); have n4_ := Aside0.mk (blk_below (g := gb447) (o := .cells #[.int .i64 t440, .int .i64 t441, .int .i64 t442, .int .i64 t443, .int .i64 t444, .int .i64 t445] 25 (0, 0)) (by (with_reducible repeat (first | refine blk_drewN ?_ _ | refine blk_drew ?_ | refine blk_alloc ?_ _)); exact BK447.out) hb); have n5_ := Aside0.mk (below_step (by repeat (first | (with_reducible first | exact HB.out | apply below_alloc | apply pw_below_drewN | apply below_drew1 | refine below_set ?_ GE422.out | refine below_set ?_ GE423.out | refine below_set ?_ GE431.out | refine below_set ?_ GE439.out | refine below_set ?_ GE447.out) | exact HB.out)) hb); clear BK422; clear BK423; clear BK431; clear BK439; clear BK447; clear HB; have BK422 := n0_; have BK423 := n1_; have BK431 := n2_; have BK439 := n3_; have BK447 := n4_; have HB := n5_; clear n0_ n1_ n2_ n3_ n4_ n5_; (try clear hb); (try clear hb2); (try clear hk); (try clear hi); have hcz103_0 : w102.cell? ⟨gb439, 0, none⟩ = some (.int .i64 t432) := (blk_cell BK439.out 0).trans rfl; have hcz103_1 : w102.cell? ⟨gb439, 1, none⟩ = some (.int .i64 t433) := (blk_cell BK439.out 1).trans rfl; have hcz103_2 : w102.cell? ⟨gb439, 2, none⟩ = some (.int .i64 t434) := (blk_cell BK439.out 2).trans rfl; have hcz103_3 : w102.cell? ⟨gb439, 3, none⟩ = some (.int .i64 t435) := (blk_cell BK439.out 3).trans rfl; have hcz103_4 : w102.cell? ⟨gb439, 4, none⟩ = some (.int .i64 t436) := (blk_cell BK439.out 4).trans rfl; have hcz103_5 : w102.cell? ⟨gb439, 5, none⟩ = some (.int .i64 t437) := (blk_cell BK439.out 5).trans rfl; have hfz103_0 := blk_frozen BK439.out 0; have hfz103_1 := blk_frozen BK439.out 1; have hfz103_2 := blk_frozen BK439.out 2; have hfz103_3 := blk_frozen BK439.out 3; have hfz103_4 := blk_frozen BK439.out 4; have hfz103_5 := blk_frozen BK439.out 5; have hnb104 := NB423_422.out; have hnc104 := NB422_423.out; have hnb105 := NB423_431.out; have hnc105 := NB431_423.out; have hnb106 := NB423_447.out; have hnc106 := NB447_423.out; have hcz107_0 : w102.cell? ⟨gb423, 0, none⟩ = some (.int .i64 a1_0) := (blk_cell BK423.out 0).trans rfl; have hcz107_1 : w102.cell? ⟨gb423, 1, none⟩ = some (.int .i64 a1_1) := (blk_cell BK423.out 1).trans rfl; have hcz107_2 : w102.cell? ⟨gb423, 2, none⟩ = some (.int .i64 a1_2) := (blk_cell BK423.out 2).trans rfl; have hcz107_3 : w102.cell? ⟨gb423, 3, none⟩ = some (.int .i64 a1_3) := (blk_cell BK423.out 3).trans rfl; have hcz107_4 : w102.cell? ⟨gb423, 4, none⟩ = some (.int .i64 a1_4) := (blk_cell BK423.out 4).trans rfl; have hcz107_5 : w102.cell? ⟨gb423, 5, none⟩ = some (.int .i64 a1_5) := (blk_cell BK423.out 5).trans rfl; have hfz107_0 := blk_frozen BK423.out 0; have hfz107_1 := blk_frozen BK423.out 1; have hfz107_2 := blk_frozen BK423.out 2; have hfz107_3 := blk_frozen BK423.out 3; have hfz107_4 := blk_frozen BK423.out 4; have hfz107_5 := blk_frozen BK423.out 5))
                    go_meet
                    case rel => exact ⟨_, (true), (by first | rfl | (simp; done) | (simp [*]; done)), H', ⟨by have := HJ9.out; first | omega | exact Nat.le_refl _⟩, ⟨by (with_reducible repeat (first | refine blk_drewN ?_ _ | refine blk_drew ?_ | refine blk_alloc ?_ _)); exact BK422.out⟩, ⟨by (with_reducible repeat (first | refine blk_drewN ?_ _ | refine blk_drew ?_ | refine blk_alloc ?_ _)); exact BK423.out⟩, ⟨by (with_reducible repeat (first | refine blk_drewN ?_ _ | refine blk_drew ?_ | refine blk_alloc ?_ _)); exact BK431.out⟩, ⟨by (with_reducible repeat (first | refine blk_drewN ?_ _ | refine blk_drew ?_ | refine blk_alloc ?_ _)); exact BK439.out⟩, ⟨by (with_reducible repeat (first | refine blk_drewN ?_ _ | refine blk_drew ?_ | refine blk_alloc ?_ _)); exact BK447.out⟩, ⟨by repeat (first | (with_reducible first | exact HB.out | apply below_alloc | apply pw_below_drewN | apply below_drew1 | refine below_set ?_ GE422.out | refine below_set ?_ GE423.out | refine below_set ?_ GE431.out | refine below_set ?_ GE439.out | refine below_set ?_ GE447.out) | exact HB.out)⟩⟩
                  · rw [if_neg c96] at H
                    have c96b0 : decide (a2 < t435) = false := decide_eq_false c96
                    clear c96
                    have H' := Aside0.mk H
                    clear H
                    have hnb108 := NB439_422.out
                    have hnc108 := NB422_439.out
                    have hnb109 := NB439_423.out
                    have hnc109 := NB423_439.out
                    have hnb110 := NB439_431.out
                    have hnc110 := NB431_439.out
                    have hnb111 := NB439_447.out
                    have hnc111 := NB447_439.out
                    have hcz112_0 : wc.cell? ⟨gb439, 0, none⟩ = some (.int .i64 t432) := (blk_cell BK439.out 0).trans rfl
                    have hcz112_1 : wc.cell? ⟨gb439, 1, none⟩ = some (.int .i64 t433) := (blk_cell BK439.out 1).trans rfl
                    have hcz112_2 : wc.cell? ⟨gb439, 2, none⟩ = some (.int .i64 t434) := (blk_cell BK439.out 2).trans rfl
                    have hcz112_3 : wc.cell? ⟨gb439, 3, none⟩ = some (.int .i64 t435) := (blk_cell BK439.out 3).trans rfl
                    have hcz112_4 : wc.cell? ⟨gb439, 4, none⟩ = some (.int .i64 t436) := (blk_cell BK439.out 4).trans rfl
                    have hcz112_5 : wc.cell? ⟨gb439, 5, none⟩ = some (.int .i64 t437) := (blk_cell BK439.out 5).trans rfl
                    have hfz112_0 := blk_frozen BK439.out 0
                    have hfz112_1 := blk_frozen BK439.out 1
                    have hfz112_2 := blk_frozen BK439.out 2
                    have hfz112_3 := blk_frozen BK439.out 3
                    have hfz112_4 := blk_frozen BK439.out 4
                    have hfz112_5 := blk_frozen BK439.out 5
                    go_wp2_with (first | (go_at_call 14; (with_reducible refine (alarm_Is.calls t432 t433 t434 t435 t436 t437 true _ A70.out).mono ?_); rintro e w113 ⟨rfl, hb⟩; have n0_ := Aside0.mk (blk_below (g := gb422) (o := .cells #[.int .i64 a0_0, .int .i64 a0_1] 23 (0, 0)) (by (with_reducible repeat (first | refine blk_drewN ?_ _ | refine blk_drew ?_ | refine blk_alloc ?_ _)); exact BK422.out) hb); have n1_ := Aside0.mk (blk_below (g := gb423) (o := .cells #[.int .i64 a1_0, .int .i64 a1_1, .int .i64 a1_2, .int .i64 a1_3, .int .i64 a1_4, .int .i64 a1_5] 25 (0, 0)) (by (with_reducible repeat (first | refine blk_drewN ?_ _ | refine blk_drew ?_ | refine blk_alloc ?_ _)); exact BK423.out) hb); have n2_ := Aside0.mk (blk_below (g := gb431) (o := .cells #[.int .i64 t424, .int .i64 t425, .int .i64 t426, .int .i64 t427, .int .i64 t428, .int .i64 t429] 25 (0, 0)) (by (with_reducible repeat (first | refine blk_drewN ?_ _ | refine blk_drew ?_ | refine blk_alloc ?_ _)); exact BK431.out) hb); have n3_ := Aside0.mk (blk_below (g := gb439) (o := .cells #[.int .i64 t432, .int .i64 t433, .int .i64 t434, .int .i64 t435, .int .i64 t436, .int .i64 t437] 25 (0, 0)) (by (with_reducible repeat (first | refine blk_drewN ?_ _ | refine blk_drew ?_ | refine blk_alloc ?_ _)); exact BK439.out) hb); have n4_ := Aside0.mk (blk_below (g := gb447) (o := .cells #[.int .i64 t440, .int .i64 t441, .int .i64 t442, .int .i64 t443, .int .i64 t444, .int .i64 t445] 25 (0, 0)) (by (with_reducible repeat (first | refine blk_drewN ?_ _ | refine blk_drew ?_ | refine blk_alloc ?_ _)); exact BK447.out) hb); have n5_ := Aside0.mk (below_step (by repeat (first | (with_reducible first | exact HB.out | apply below_alloc | apply pw_below_drewN | apply below_drew1 | refine below_set ?_ GE422.out | refine below_set ?_ GE423.out | refine below_set ?_ GE431.out | refine below_set ?_ GE439.out | refine below_set ?_ GE447.out) | exact HB.out)) hb); clear BK422; clear BK423; clear BK431; clear BK439; clear BK447; clear HB; have BK422 := n0_; have BK423 := n1_; have BK431 := n2_; have BK439 := n3_; have BK447 := n4_; have HB := n5_; clear n0_ n1_ n2_ n3_ n4_ n5_; (try clear hb); (try clear hb2); (try clear hk); (try clear hi); have hcz114_0 : w113.cell? ⟨gb439, 0, none⟩ = some (.int .i64 t432) := (blk_cell BK439.out 0).trans rfl; have hcz114_1 : w113.cell? ⟨gb439, 1, none⟩ = some (.int .i64 t433) := (blk_cell BK439.out 1).trans rfl; have hcz114_2 : w113.cell? ⟨gb439, 2, none⟩ = some (.int .i64 t434) := (blk_cell BK439.out 2).trans rfl; have hcz114_3 : w113.cell? ⟨gb439, 3, none⟩ = some (.int .i64 t435) := (blk_cell BK439.out 3).trans rfl; have hcz114_4 : w113.cell? ⟨gb439, 4, none⟩ = some (.int .i64 t436) := (blk_cell BK439.out 4).trans rfl; have hcz114_5 : w113.cell? ⟨gb439, 5, none⟩ = some (.int .i64 t437) := (blk_cell BK439.out 5).trans rfl; have hfz114_0 := blk_frozen BK439.out 0; have hfz114_1 := blk_frozen BK439.out 1; have hfz114_2 := blk_frozen BK439.out 2; have hfz114_3 := blk_frozen BK439.out 3; have hfz114_4 := blk_frozen BK439.out 4; have hfz114_5 := blk_frozen BK439.out 5; have hnb115 := NB423_422.out; have hnc115 := NB422_423.out; have hnb116 := NB423_431.out; have hnc116 := NB431_423.out; have hnb117 := NB423_447.out; have hnc117 := NB447_423.out; have hcz118_0 : w113.cell? ⟨gb423, 0, none⟩ = some (.int .i64 a1_0) := (blk_cell BK423.out 0).trans rfl; have hcz118_1 : w113.cell? ⟨gb423, 1, none⟩ = some (.int .i64 a1_1) := (blk_cell BK423.out 1).trans rfl; have hcz118_2 : w113.cell? ⟨gb423, 2, none⟩ = some (.int .i64 a1_2) := (blk_cell BK423.out 2).trans rfl; have hcz118_3 : w113.cell? ⟨gb423, 3, none⟩ = some (.int .i64 a1_3) := (blk_cell BK423.out 3).trans rfl; have hcz118_4 : w113.cell? ⟨gb423, 4, none⟩ = some (.int .i64 a1_4) := (blk_cell BK423.out 4).trans rfl; have hcz118_5 : w113.cell? ⟨gb423, 5, none⟩ = some (.int .i64 a1_5) := (blk_cell BK423.out 5).trans rfl; have hfz118_0 := blk_frozen BK423.out 0; have hfz118_1 := blk_frozen BK423.out 1; have hfz118_2 := blk_frozen BK423.out 2; have hfz118_3 := blk_frozen BK423.out 3; have hfz118_4 := blk_frozen BK423.out 4; have hfz118_5 := blk_frozen BK423.out 5))
                    go_meet
                    case rel => exact ⟨_, (decide (t436 < a1_4)), (by first | rfl | (simp; done) | (simp [*]; done)), H', ⟨by have := HJ9.out; first | omega | exact Nat.le_refl _⟩, ⟨by (with_reducible repeat (first | refine blk_drewN ?_ _ | refine blk_drew ?_ | refine blk_alloc ?_ _)); exact BK422.out⟩, ⟨by (with_reducible repeat (first | refine blk_drewN ?_ _ | refine blk_drew ?_ | refine blk_alloc ?_ _)); exact BK423.out⟩, ⟨by (with_reducible repeat (first | refine blk_drewN ?_ _ | refine blk_drew ?_ | refine blk_alloc ?_ _)); exact BK431.out⟩, ⟨by (with_reducible repeat (first | refine blk_drewN ?_ _ | refine blk_drew ?_ | refine blk_alloc ?_ _)); exact BK439.out⟩, ⟨by (with_reducible repeat (first | refine blk_drewN ?_ _ | refine blk_drew ?_ | refine blk_alloc ?_ _)); exact BK447.out⟩, ⟨by repeat (first | (with_reducible first | exact HB.out | apply below_alloc | apply pw_below_drewN | apply below_drew1 | refine below_set ?_ GE422.out | refine below_set ?_ GE423.out | refine below_set ?_ GE431.out | refine below_set ?_ GE439.out | refine below_set ?_ GE447.out) | exact HB.out)⟩⟩
            · replace c71 := Bool.eq_false_iff.mpr c71
              subst c71
              have H1 : (watchmanlaw06_AlarmRight.j1 kj9 a4 t446 true a1_0 a1_1 a1_2 a1_3 a1_4 a1_5 t440 t441 t442 t443 t444 t445) = some r := by rw [if_neg (show ¬ (false = true) by decide)] at H; exact H
              clear H
              have H := H1
              clear H1
              have H' := Aside0.mk H
              clear H
              have hnb119 := NB439_422.out
              have hnc119 := NB422_439.out
              have hnb120 := NB439_423.out
              have hnc120 := NB423_439.out
              have hnb121 := NB439_431.out
              have hnc121 := NB431_439.out
              have hnb122 := NB439_447.out
              have hnc122 := NB447_439.out
              have hcz123_0 : wc.cell? ⟨gb439, 0, none⟩ = some (.int .i64 t432) := (blk_cell BK439.out 0).trans rfl
              have hcz123_1 : wc.cell? ⟨gb439, 1, none⟩ = some (.int .i64 t433) := (blk_cell BK439.out 1).trans rfl
              have hcz123_2 : wc.cell? ⟨gb439, 2, none⟩ = some (.int .i64 t434) := (blk_cell BK439.out 2).trans rfl
              have hcz123_3 : wc.cell? ⟨gb439, 3, none⟩ = some (.int .i64 t435) := (blk_cell BK439.out 3).trans rfl
              have hcz123_4 : wc.cell? ⟨gb439, 4, none⟩ = some (.int .i64 t436) := (blk_cell BK439.out 4).trans rfl
              have hcz123_5 : wc.cell? ⟨gb439, 5, none⟩ = some (.int .i64 t437) := (blk_cell BK439.out 5).trans rfl
              have hfz123_0 := blk_frozen BK439.out 0
              have hfz123_1 := blk_frozen BK439.out 1
              have hfz123_2 := blk_frozen BK439.out 2
              have hfz123_3 := blk_frozen BK439.out 3
              have hfz123_4 := blk_frozen BK439.out 4
              have hfz123_5 := blk_frozen BK439.out 5
              go_wp2_with (first | (go_at_call 14; (with_reducible refine (alarm_Is.calls t432 t433 t434 t435 t436 t437 false _ A70.out).mono ?_); rintro e w124 ⟨rfl, hb⟩; have n0_ := Aside0.mk (blk_below (g := gb422) (o := .cells #[.int .i64 a0_0, .int .i64 a0_1] 23 (0, 0)) (by (with_reducible repeat (first | refine blk_drewN ?_ _ | refine blk_drew ?_ | refine blk_alloc ?_ _)); exact BK422.out) hb); have n1_ := Aside0.mk (blk_below (g := gb423) (o := .cells #[.int .i64 a1_0, .int .i64 a1_1, .int .i64 a1_2, .int .i64 a1_3, .int .i64 a1_4, .int .i64 a1_5] 25 (0, 0)) (by (with_reducible repeat (first | refine blk_drewN ?_ _ | refine blk_drew ?_ | refine blk_alloc ?_ _)); exact BK423.out) hb); have n2_ := Aside0.mk (blk_below (g := gb431) (o := .cells #[.int .i64 t424, .int .i64 t425, .int .i64 t426, .int .i64 t427, .int .i64 t428, .int .i64 t429] 25 (0, 0)) (by (with_reducible repeat (first | refine blk_drewN ?_ _ | refine blk_drew ?_ | refine blk_alloc ?_ _)); exact BK431.out) hb); have n3_ := Aside0.mk (blk_below (g := gb439) (o := .cells #[.int .i64 t432, .int .i64 t433, .int .i64 t434, .int .i64 t435, .int .i64 t436, .int .i64 t437] 25 (0, 0)) (by (with_reducible repeat (first | refine blk_drewN ?_ _ | refine blk_drew ?_ | refine blk_alloc ?_ _)); exact BK439.out) hb); have n4_ := Aside0.mk (blk_below (g := gb447) (o := .cells #[.int .i64 t440, .int .i64 t441, .int .i64 t442, .int .i64 t443, .int .i64 t444, .int .i64 t445] 25 (0, 0)) (by (with_reducible repeat (first | refine blk_drewN ?_ _ | refine blk_drew ?_ | refine blk_alloc ?_ _)); exact BK447.out) hb); have n5_ := Aside0.mk (below_step (by repeat (first | (with_reducible first | exact HB.out | apply below_alloc | apply pw_below_drewN | apply below_drew1 | refine below_set ?_ GE422.out | refine below_set ?_ GE423.out | refine below_set ?_ GE431.out | refine below_set ?_ GE439.out | refine below_set ?_ GE447.out) | exact HB.out)) hb); clear BK422; clear BK423; clear BK431; clear BK439; clear BK447; clear HB; have BK422 := n0_; have BK423 := n1_; have BK431 := n2_; have BK439 := n3_; have BK447 := n4_; have HB := n5_; clear n0_ n1_ n2_ n3_ n4_ n5_; (try clear hb); (try clear hb2); (try clear hk); (try clear hi)))
              go_meet
              case rel => exact ⟨_, (true), (by first | rfl | (simp; done) | (simp [*]; done)), H', ⟨by have := HJ9.out; first | omega | exact Nat.le_refl _⟩, ⟨by (with_reducible repeat (first | refine blk_drewN ?_ _ | refine blk_drew ?_ | refine blk_alloc ?_ _)); exact BK422.out⟩, ⟨by (with_reducible repeat (first | refine blk_drewN ?_ _ | refine blk_drew ?_ | refine blk_alloc ?_ _)); exact BK423.out⟩, ⟨by (with_reducible repeat (first | refine blk_drewN ?_ _ | refine blk_drew ?_ | refine blk_alloc ?_ _)); exact BK431.out⟩, ⟨by (with_reducible repeat (first | refine blk_drewN ?_ _ | refine blk_drew ?_ | refine blk_alloc ?_ _)); exact BK439.out⟩, ⟨by (with_reducible repeat (first | refine blk_drewN ?_ _ | refine blk_drew ?_ | refine blk_alloc ?_ _)); exact BK447.out⟩, ⟨by repeat (first | (with_reducible first | exact HB.out | apply below_alloc | apply pw_below_drewN | apply below_drew1 | refine below_set ?_ GE422.out | refine below_set ?_ GE423.out | refine below_set ?_ GE431.out | refine below_set ?_ GE439.out | refine below_set ?_ GE447.out) | exact HB.out)⟩⟩
          · rw [if_neg c69] at H
            have c69b0 : (t438 == 0) = false := beq_eq_false_iff_ne.mpr c69
            have c69b1 : (t438 != 0) = true := bne_iff_ne.mpr c69
            (first | rw [c69b0] | (simp only [i64_w, i32_w]; rw [c69b0]) | skip)
            have H' := Aside0.mk H
            clear H
            go_wp2
            go_meet
            case rel => exact ⟨_, (false), (by first | rfl | (simp; done) | (simp [*]; done)), H', ⟨by have := HJ9.out; first | omega | exact Nat.le_refl _⟩, ⟨by (with_reducible repeat (first | refine blk_drewN ?_ _ | refine blk_drew ?_ | refine blk_alloc ?_ _)); exact BK422.out⟩, ⟨by (with_reducible repeat (first | refine blk_drewN ?_ _ | refine blk_drew ?_ | refine blk_alloc ?_ _)); exact BK423.out⟩, ⟨by (with_reducible repeat (first | refine blk_drewN ?_ _ | refine blk_drew ?_ | refine blk_alloc ?_ _)); exact BK431.out⟩, ⟨by (with_reducible repeat (first | refine blk_drewN ?_ _ | refine blk_drew ?_ | refine blk_alloc ?_ _)); exact BK439.out⟩, ⟨by (with_reducible repeat (first | refine blk_drewN ?_ _ | refine blk_drew ?_ | refine blk_alloc ?_ _)); exact BK447.out⟩, ⟨by repeat (first | (with_reducible first | exact HB.out | apply below_alloc | apply pw_below_drewN | apply below_drew1 | refine below_set ?_ GE422.out | refine below_set ?_ GE423.out | refine below_set ?_ GE431.out | refine below_set ?_ GE439.out | refine below_set ?_ GE447.out) | exact HB.out)⟩⟩
        case rest =>
          clear HC68
          try clear c1
          try clear c2
          try clear p2
          try clear c3
          try clear c4
          try clear c5
          try clear c6
          try clear c7
          try clear c8
          try clear c9
          try clear c10
          try clear c11
          try clear c12
          try clear c13
          try clear c15
          try clear c17
          try clear c18
          try clear c23
          try clear c24
          try clear c25
          try clear c30
          try clear c31
          try clear c32
          try clear c33
          try clear c35
          try clear c35b0
          try clear c35b1
          try clear c37
          try clear c38
          try clear c38b0
          try clear c39
          try clear c40
          try clear c41
          try clear c42
          try clear c46
          try clear c47
          try clear c48
          try clear c50
          try clear c51
          try clear c52
          try clear c53
          try clear c57
          try clear c58
          try clear c59
          try clear c61
          try clear c62
          try clear c63
          try clear c64
          try clear c67
          try clear c69
          try clear c69b0
          try clear c69b1
          try clear c71
          try clear c72
          try clear c72b0
          try clear c73
          try clear c74
          try clear c75
          try clear c76
          try clear c80
          try clear c81
          try clear c82
          try clear c84
          try clear c84b0
          try clear c85
          try clear c86
          try clear c87
          try clear c88
          try clear c92
          try clear c93
          try clear c94
          try clear c96
          try clear c96b0
          try clear c97
          try clear c98
          try clear c99
          try clear c100
          try clear c104
          try clear c105
          try clear c106
          try clear c108
          try clear c109
          try clear c110
          try clear c111
          try clear c115
          try clear c116
          try clear c117
          try clear c119
          try clear c120
          try clear c121
          try clear c122
          try clear hcz101_0
          try clear hcz101_1
          try clear hcz101_2
          try clear hcz101_3
          try clear hcz101_4
          try clear hcz101_5
          try clear hcz103_0
          try clear hcz103_1
          try clear hcz103_2
          try clear hcz103_3
          try clear hcz103_4
          try clear hcz103_5
          try clear hcz107_0
          try clear hcz107_1
          try clear hcz107_2
          try clear hcz107_3
          try clear hcz107_4
          try clear hcz107_5
          try clear hcz112_0
          try clear hcz112_1
          try clear hcz112_2
          try clear hcz112_3
          try clear hcz112_4
          try clear hcz112_5
          try clear hcz114_0
          try clear hcz114_1
          try clear hcz114_2
          try clear hcz114_3
          try clear hcz114_4
          try clear hcz114_5
          try clear hcz118_0
          try clear hcz118_1
          try clear hcz118_2
          try clear hcz118_3
          try clear hcz118_4
          try clear hcz118_5
          try clear hcz123_0
          try clear hcz123_1
          try clear hcz123_2
          try clear hcz123_3
          try clear hcz123_4
          try clear hcz123_5
          try clear hcz14_0
          try clear hcz14_1
          try clear hcz19_0
          try clear hcz19_1
          try clear hcz19_2
          try clear hcz19_3
          try clear hcz19_4
          try clear hcz19_5
          try clear hcz20_0
          try clear hcz20_1
          try clear hcz20_2
          try clear hcz20_3
          try clear hcz20_4
          try clear hcz20_5
          try clear hcz26_0
          try clear hcz26_1
          try clear hcz26_2
          try clear hcz26_3
          try clear hcz26_4
          try clear hcz26_5
          try clear hcz27_0
          try clear hcz27_1
          try clear hcz27_2
          try clear hcz27_3
          try clear hcz27_4
          try clear hcz27_5
          try clear hcz34_0
          try clear hcz34_1
          try clear hcz34_2
          try clear hcz34_3
          try clear hcz34_4
          try clear hcz34_5
          try clear hcz43_0
          try clear hcz43_1
          try clear hcz43_2
          try clear hcz43_3
          try clear hcz43_4
          try clear hcz43_5
          try clear hcz45_0
          try clear hcz45_1
          try clear hcz45_2
          try clear hcz45_3
          try clear hcz45_4
          try clear hcz45_5
          try clear hcz49_0
          try clear hcz49_1
          try clear hcz54_0
          try clear hcz54_1
          try clear hcz54_2
          try clear hcz54_3
          try clear hcz54_4
          try clear hcz54_5
          try clear hcz56_0
          try clear hcz56_1
          try clear hcz56_2
          try clear hcz56_3
          try clear hcz56_4
          try clear hcz56_5
          try clear hcz60_0
          try clear hcz60_1
          try clear hcz65_0
          try clear hcz65_1
          try clear hcz65_2
          try clear hcz65_3
          try clear hcz65_4
          try clear hcz65_5
          try clear hcz77_0
          try clear hcz77_1
          try clear hcz77_2
          try clear hcz77_3
          try clear hcz77_4
          try clear hcz77_5
          try clear hcz79_0
          try clear hcz79_1
          try clear hcz79_2
          try clear hcz79_3
          try clear hcz79_4
          try clear hcz79_5
          try clear hcz83_0
          try clear hcz83_1
          try clear hcz83_2
          try clear hcz83_3
          try clear hcz83_4
          try clear hcz83_5
          try clear hcz89_0
          try clear hcz89_1
          try clear hcz89_2
          try clear hcz89_3
          try clear hcz89_4
          try clear hcz89_5
          try clear hcz91_0
          try clear hcz91_1
          try clear hcz91_2
          try clear hcz91_3
          try clear hcz91_4
          try clear hcz91_5
          try clear hcz95_0
          try clear hcz95_1
          try clear hcz95_2
          try clear hcz95_3
          try clear hcz95_4
          try clear hcz95_5
          try clear hfz101_0
          try clear hfz101_1
          try clear hfz101_2
          try clear hfz101_3
          try clear hfz101_4
          try clear hfz101_5
          try clear hfz103_0
          try clear hfz103_1
          try clear hfz103_2
          try clear hfz103_3
          try clear hfz103_4
          try clear hfz103_5
          try clear hfz107_0
          try clear hfz107_1
          try clear hfz107_2
          try clear hfz107_3
          try clear hfz107_4
          try clear hfz107_5
          try clear hfz112_0
          try clear hfz112_1
          try clear hfz112_2
          try clear hfz112_3
          try clear hfz112_4
          try clear hfz112_5
          try clear hfz114_0
          try clear hfz114_1
          try clear hfz114_2
          try clear hfz114_3
          try clear hfz114_4
          try clear hfz114_5
          try clear hfz118_0
          try clear hfz118_1
          try clear hfz118_2
          try clear hfz118_3
          try clear hfz118_4
          try clear hfz118_5
          try clear hfz123_0
          try clear hfz123_1
          try clear hfz123_2
          try clear hfz123_3
          try clear hfz123_4
          try clear hfz123_5
          try clear hfz14_0
          try clear hfz14_1
          try clear hfz19_0
          try clear hfz19_1
          try clear hfz19_2
          try clear hfz19_3
          try clear hfz19_4
          try clear hfz19_5
          try clear hfz20_0
          try clear hfz20_1
          try clear hfz20_2
          try clear hfz20_3
          try clear hfz20_4
          try clear hfz20_5
          try clear hfz26_0
          try clear hfz26_1
          try clear hfz26_2
          try clear hfz26_3
          try clear hfz26_4
          try clear hfz26_5
          try clear hfz27_0
          try clear hfz27_1
          try clear hfz27_2
          try clear hfz27_3
          try clear hfz27_4
          try clear hfz27_5
          try clear hfz34_0
          try clear hfz34_1
          try clear hfz34_2
          try clear hfz34_3
          try clear hfz34_4
          try clear hfz34_5
          try clear hfz43_0
          try clear hfz43_1
          try clear hfz43_2
          try clear hfz43_3
          try clear hfz43_4
          try clear hfz43_5
          try clear hfz45_0
          try clear hfz45_1
          try clear hfz45_2
          try clear hfz45_3
          try clear hfz45_4
          try clear hfz45_5
          try clear hfz49_0
          try clear hfz49_1
          try clear hfz54_0
          try clear hfz54_1
          try clear hfz54_2
          try clear hfz54_3
          try clear hfz54_4
          try clear hfz54_5
          try clear hfz56_0
          try clear hfz56_1
          try clear hfz56_2
          try clear hfz56_3
          try clear hfz56_4
          try clear hfz56_5
          try clear hfz60_0
          try clear hfz60_1
          try clear hfz65_0
          try clear hfz65_1
          try clear hfz65_2
          try clear hfz65_3
          try clear hfz65_4
          try clear hfz65_5
          try clear hfz77_0
          try clear hfz77_1
          try clear hfz77_2
          try clear hfz77_3
          try clear hfz77_4
          try clear hfz77_5
          try clear hfz79_0
          try clear hfz79_1
          try clear hfz79_2
          try clear hfz79_3
          try clear hfz79_4
          try clear hfz79_5
          try clear hfz83_0
          try clear hfz83_1
          try clear hfz83_2
          try clear hfz83_3
          try clear hfz83_4
          try clear hfz83_5
          try clear hfz89_0
          try clear hfz89_1
          try clear hfz89_2
          try clear hfz89_3
          try clear hfz89_4
          try clear hfz89_5
          try clear hfz91_0
          try clear hfz91_1
          try clear hfz91_2
          try clear hfz91_3
          try clear hfz91_4
          try clear hfz91_5
          try clear hfz95_0
          try clear hfz95_1
          try clear hfz95_2
          try clear hfz95_3
          try clear hfz95_4
          try clear hfz95_5
          try clear p2
          obtain ⟨kq, x93_67, rfl, HA, HJ67, BK422, BK423, BK431, BK439, BK447, HB⟩ := hcut
          cases kq with
          | zero => exact absurd HA.out (by simp [watchmanlaw06_AlarmRight.j1])
          | succ kj67 =>
            have H := HA.out
            clear HA
            simp only [watchmanlaw06_AlarmRight.j1] at H
            by_cases c125 : x93_67 = true
            · subst c125
              have H1 : (some false) = some r := by rw [if_pos rfl] at H; exact H
              clear H
              have H := H1
              clear H1
              obtain rfl := Option.some.inj H
              go_wp2
              go_ret
              exact ⟨by first | rfl | (simp [errW_none, errW_some] <;> rfl) | (simp [*, errW_none, errW_some] <;> rfl), by repeat (first | (with_reducible first | exact HB.out | apply below_alloc | apply pw_below_drewN | apply below_drew1 | refine below_set ?_ GE422.out | refine below_set ?_ GE423.out | refine below_set ?_ GE431.out | refine below_set ?_ GE439.out | refine below_set ?_ GE447.out) | exact HB.out)⟩
            · replace c125 := Bool.eq_false_iff.mpr c125
              subst c125
              have H1 : ((watchmanlaw06_rung.f kj67).bind fun t450 => (if t450 = true then (if t446 = 0 then ((alarm_Is.f t440 t441 t442 t443 t444 t445).bind fun t451 => (if t451 = true then (if (t440 == a1_0 && (t441 == a1_1)) = true then (if t443 = a1_3 then (if t444 = a1_4 then (some (decide (t445 ≥ a4))) else (none)) else (none)) else (none)) else (none))) else (some true)) else (none))) = some r := by rw [if_neg (show ¬ (false = true) by decide)] at H; exact H
              clear H
              have H := H1
              clear H1
              replace H := Option.bind_eq_some_iff.mp H
              obtain ⟨t450, A1260, H⟩ := H
              replace H : (if t450 = true then (if t446 = 0 then ((alarm_Is.f t440 t441 t442 t443 t444 t445).bind fun t451 => (if t451 = true then (if (t440 == a1_0 && (t441 == a1_1)) = true then (if t443 = a1_3 then (if t444 = a1_4 then (some (decide (t445 ≥ a4))) else (none)) else (none)) else (none)) else (none))) else (some true)) else (none)) = some r := H
              have A126 := Aside0.mk A1260
              clear A1260
              by_cases c127 : t450 = true
              · subst c127
                have H1 : (if t446 = 0 then ((alarm_Is.f t440 t441 t442 t443 t444 t445).bind fun t451 => (if t451 = true then (if (t440 == a1_0 && (t441 == a1_1)) = true then (if t443 = a1_3 then (if t444 = a1_4 then (some (decide (t445 ≥ a4))) else (none)) else (none)) else (none)) else (none))) else (some true)) = some r := by rw [if_pos rfl] at H; exact H
                clear H
                have H := H1
                clear H1
                by_cases c128 : t446 = 0
                · rw [if_pos c128] at H
                  have c128b0 : (t446 == 0) = true := beq_iff_eq.mpr c128
                  have c128b1 : (t446 != 0) = false := bne_eq_false_iff_eq.mpr c128
                  clear c128
                  replace H := Option.bind_eq_some_iff.mp H
                  obtain ⟨t451, A1290, H⟩ := H
                  replace H : (if t451 = true then (if (t440 == a1_0 && (t441 == a1_1)) = true then (if t443 = a1_3 then (if t444 = a1_4 then (some (decide (t445 ≥ a4))) else (none)) else (none)) else (none)) else (none)) = some r := H
                  have A129 := Aside0.mk A1290
                  clear A1290
                  by_cases c130 : t451 = true
                  · subst c130
                    have H1 : (if (t440 == a1_0 && (t441 == a1_1)) = true then (if t443 = a1_3 then (if t444 = a1_4 then (some (decide (t445 ≥ a4))) else (none)) else (none)) else (none)) = some r := by rw [if_pos rfl] at H; exact H
                    clear H
                    have H := H1
                    clear H1
                    by_cases c131 : (t440 == a1_0 && (t441 == a1_1)) = true
                    · rw [if_pos c131] at H
                      have c131b0 : (t440 == a1_0 && (t441 == a1_1)) = true := c131
                      (try (have c131b1 : decide (t440 = a1_0 && (t441 == a1_1)) = true := by simpa using c131))
                      (try (have c131b2 : (t440 == a1_0 && (t441 == a1_1)) = true := by simpa using c131))
                      clear c131
                      by_cases c132 : t443 = a1_3
                      · rw [if_pos c132] at H
                        have c132b0 : (t443 == a1_3) = true := beq_iff_eq.mpr c132
                        have c132b1 : (t443 != a1_3) = false := bne_eq_false_iff_eq.mpr c132
                        clear c132
                        by_cases c133 : t444 = a1_4
                        · rw [if_pos c133] at H
                          have c133b0 : (t444 == a1_4) = true := beq_iff_eq.mpr c133
                          have c133b1 : (t444 != a1_4) = false := bne_eq_false_iff_eq.mpr c133
                          clear c133
                          obtain rfl := Option.some.inj H
                          go_wp2_with (first | ((with_reducible refine gate_callee (f := 11) rfl ?_); refine goesL_ (some 94) rfl rfl Try.func11 (by kernel_rfl) rfl #[] rfl (by (try simp only [List.map_toArray, List.map_cons, List.map_nil]); first | done | rfl | (simp only [List.length_drop, List.length_take]; rfl)) ?_; (with_reducible refine (watchmanlaw06_rung.calls kj67  true _ A126.out).mono ?_); rintro e w134 ⟨rfl, hb⟩; refine ⟨_, rfl, ?_⟩; have n0_ := Aside0.mk (blk_below (g := gb422) (o := .cells #[.int .i64 a0_0, .int .i64 a0_1] 23 (0, 0)) (by (with_reducible repeat (first | refine blk_drewN ?_ _ | refine blk_drew ?_ | refine blk_alloc ?_ _)); exact BK422.out) hb); have n1_ := Aside0.mk (blk_below (g := gb423) (o := .cells #[.int .i64 a1_0, .int .i64 a1_1, .int .i64 a1_2, .int .i64 a1_3, .int .i64 a1_4, .int .i64 a1_5] 25 (0, 0)) (by (with_reducible repeat (first | refine blk_drewN ?_ _ | refine blk_drew ?_ | refine blk_alloc ?_ _)); exact BK423.out) hb); have n2_ := Aside0.mk (blk_below (g := gb431) (o := .cells #[.int .i64 t424, .int .i64 t425, .int .i64 t426, .int .i64 t427, .int .i64 t428, .int .i64 t429] 25 (0, 0)) (by (with_reducible repeat (first | refine blk_drewN ?_ _ | refine blk_drew ?_ | refine blk_alloc ?_ _)); exact BK431.out) hb); have n3_ := Aside0.mk (blk_below (g := gb439) (o := .cells #[.int .i64 t432, .int .i64 t433, .int .i64 t434, .int .i64 t435, .int .i64 t436, .int .i64 t437] 25 (0, 0)) (by (with_reducible repeat (first | refine blk_drewN ?_ _ | refine blk_drew ?_ | refine blk_alloc ?_ _)); exact BK439.out) hb); have n4_ := Aside0.mk (blk_below (g := gb447) (o := .cells #[.int .i64 t440, .int .i64 t441, .int .i64 t442, .int .i64 t443, .int .i64 t444, .int .i64 t445] 25 (0, 0)) (by (with_reducible repeat (first | refine blk_drewN ?_ _ | refine blk_drew ?_ | refine blk_alloc ?_ _)); exact BK447.out) hb); have n5_ := Aside0.mk (below_step (by repeat (first | (with_reducible first | exact HB.out | apply below_alloc | apply pw_below_drewN | apply below_drew1 | refine below_set ?_ GE422.out | refine below_set ?_ GE423.out | refine below_set ?_ GE431.out | refine below_set ?_ GE439.out | refine below_set ?_ GE447.out) | exact HB.out)) hb); clear BK422; clear BK423; clear BK431; clear BK439; clear BK447; clear HB; have BK422 := n0_; have BK423 := n1_; have BK431 := n2_; have BK439 := n3_; have BK447 := n4_; have HB := n5_; clear n0_ n1_ n2_ n3_ n4_ n5_; (try clear hb); (try clear hb2); (try clear hk); (try clear hi); have hnb135 := NB447_422.out; have hnc135 := NB422_447.out; have hnb136 := NB447_423.out; have hnc136 := NB423_447.out; have hnb137 := NB447_431.out; have hnc137 := NB431_447.out; have hnb138 := NB447_439.out; have hnc138 := NB439_447.out; have hcz139_0 : w134.cell? ⟨gb447, 0, none⟩ = some (.int .i64 t440) := (blk_cell BK447.out 0).trans rfl; have hcz139_1 : w134.cell? ⟨gb447, 1, none⟩ = some (.int .i64 t441) := (blk_cell BK447.out 1).trans rfl; have hcz139_2 : w134.cell? ⟨gb447, 2, none⟩ = some (.int .i64 t442) := (blk_cell BK447.out 2).trans rfl; have hcz139_3 : w134.cell? ⟨gb447, 3, none⟩ = some (.int .i64 t443) := (blk_cell BK447.out 3).trans rfl; have hcz139_4 : w134.cell? ⟨gb447, 4, none⟩ = some (.int .i64 t444) := (blk_cell BK447.out 4).trans rfl; have hcz139_5 : w134.cell? ⟨gb447, 5, none⟩ = some (.int .i64 t445) := (blk_cell BK447.out 5).trans rfl; have hfz139_0 := blk_frozen BK447.out 0; have hfz139_1 := blk_frozen BK447.out 1; have hfz139_2 := blk_frozen BK447.out 2; have hfz139_3 := blk_frozen BK447.out 3; have hfz139_4 := blk_frozen BK447.out 4; have hfz139_5 := blk_frozen BK447.out 5) | (go_at_call 14; (with_reducible refine (alarm_Is.calls t440 t441 t442 t443 t444 t445 true _ A129.out).mono ?_); rintro e w140 ⟨rfl, hb⟩; have n0_ := Aside0.mk (blk_below (g := gb422) (o := .cells #[.int .i64 a0_0, .int .i64 a0_1] 23 (0, 0)) (by (with_reducible repeat (first | refine blk_drewN ?_ _ | refine blk_drew ?_ | refine blk_alloc ?_ _)); exact BK422.out) hb); have n1_ := Aside0.mk (blk_below (g := gb423) (o := .cells #[.int .i64 a1_0, .int .i64 a1_1, .int .i64 a1_2, .int .i64 a1_3, .int .i64 a1_4, .int .i64 a1_5] 25 (0, 0)) (by (with_reducible repeat (first | refine blk_drewN ?_ _ | refine blk_drew ?_ | refine blk_alloc ?_ _)); exact BK423.out) hb); have n2_ := Aside0.mk (blk_below (g := gb431) (o := .cells #[.int .i64 t424, .int .i64 t425, .int .i64 t426, .int .i64 t427, .int .i64 t428, .int .i64 t429] 25 (0, 0)) (by (with_reducible repeat (first | refine blk_drewN ?_ _ | refine blk_drew ?_ | refine blk_alloc ?_ _)); exact BK431.out) hb); have n3_ := Aside0.mk (blk_below (g := gb439) (o := .cells #[.int .i64 t432, .int .i64 t433, .int .i64 t434, .int .i64 t435, .int .i64 t436, .int .i64 t437] 25 (0, 0)) (by (with_reducible repeat (first | refine blk_drewN ?_ _ | refine blk_drew ?_ | refine blk_alloc ?_ _)); exact BK439.out) hb); have n4_ := Aside0.mk (blk_below (g := gb447) (o := .cells #[.int .i64 t440, .int .i64 t441, .int .i64 t442, .int .i64 t443, .int .i64 t444, .int .i64 t445] 25 (0, 0)) (by (with_reducible repeat (first | refine blk_drewN ?_ _ | refine blk_drew ?_ | refine blk_alloc ?_ _)); exact BK447.out) hb); have n5_ := Aside0.mk (below_step (by repeat (first | (with_reducible first | exact HB.out | apply below_alloc | apply pw_below_drewN | apply below_drew1 | refine below_set ?_ GE422.out | refine below_set ?_ GE423.out | refine below_set ?_ GE431.out | refine below_set ?_ GE439.out | refine below_set ?_ GE447.out) | exact HB.out)) hb); clear BK422; clear BK423; clear BK431; clear BK439; clear BK447; clear HB; have BK422 := n0_; have BK423 := n1_; have BK431 := n2_; have BK439 := n3_; have BK447 := n4_; have HB := n5_; clear n0_ n1_ n2_ n3_ n4_ n5_; (try clear hb); (try clear hb2); (try clear hk); (try clear hi); have hcz141_0 : w140.cell? ⟨gb447, 0, none⟩ = some (.int .i64 t440) := (blk_cell BK447.out 0).trans rfl; have hcz141_1 : w140.cell? ⟨gb447, 1, none⟩ = some (.int .i64 t441) := (blk_cell BK447.out 1).trans rfl; have hcz141_2 : w140.cell? ⟨gb447, 2, none⟩ = some (.int .i64 t442) := (blk_cell BK447.out 2).trans rfl; have hcz141_3 : w140.cell? ⟨gb447, 3, none⟩ = some (.int .i64 t443) := (blk_cell BK447.out 3).trans rfl; have hcz141_4 : w140.cell? ⟨gb447, 4, none⟩ = some (.int .i64 t444) := (blk_cell BK447.out 4).trans rfl; have hcz141_5 : w140.cell? ⟨gb447, 5, none⟩ = some (.int .i64 t445) := (blk_cell BK447.out 5).trans rfl; have hfz141_0 := blk_frozen BK447.out 0; have hfz141_1 := blk_frozen BK447.out 1; have hfz141_2 := blk_frozen BK447.out 2; have hfz141_3 := blk_frozen BK447.out 3; have hfz141_4 := blk_frozen BK447.out 4; have hfz141_5 := blk_frozen BK447.out 5; have hnb142 := NB423_422.out; have hnc142 := NB422_423.out; have hnb143 := NB423_431.out; have hnc143 := NB431_423.out; have hnb144 := NB423_439.out; have hnc144 := NB439_423.out; have hcz145_0 : w140.cell? ⟨gb423, 0, none⟩ = some (.int .i64 a1_0) := (blk_cell BK423.out 0).trans rfl; have hcz145_1 : w140.cell? ⟨gb423, 1, none⟩ = some (.int .i64 a1_1) := (blk_cell BK423.out 1).trans rfl; have hcz145_2 : w140.cell? ⟨gb423, 2, none⟩ = some (.int .i64 a1_2) := (blk_cell BK423.out 2).trans rfl; have hcz145_3 : w140.cell? ⟨gb423, 3, none⟩ = some (.int .i64 a1_3) := (blk_cell BK423.out 3).trans rfl; have hcz145_4 : w140.cell? ⟨gb423, 4, none⟩ = some (.int .i64 a1_4) := (blk_cell BK423.out 4).trans rfl; have hcz145_5 : w140.cell? ⟨gb423, 5, none⟩ = some (.int .i64 a1_5) := (blk_cell BK423.out 5).trans rfl; have hfz145_0 := blk_frozen BK423.out 0; have hfz145_1 := blk_frozen BK423.out 1; have hfz145_2 := blk_frozen BK423.out 2; have hfz145_3 := blk_frozen BK423.out 3; have hfz145_4 := blk_frozen BK423.out 4; have hfz145_5 := blk_frozen BK423.out 5))
                          go_ret
                          exact ⟨by first | rfl | (simp [errW_none, errW_some] <;> rfl) | (simp [*, errW_none, errW_some] <;> rfl), by repeat (first | (with_reducible first | exact HB.out | apply below_alloc | apply pw_below_drewN | apply below_drew1 | refine below_set ?_ GE422.out | refine below_set ?_ GE423.out | refine below_set ?_ GE431.out | refine below_set ?_ GE439.out | refine below_set ?_ GE447.out) | exact HB.out)⟩
                        · rw [if_neg c133] at H
                          exact absurd H (by simp)
                      · rw [if_neg c132] at H
                        exact absurd H (by simp)
                    · rw [if_neg c131] at H
                      exact absurd H (by simp)
                  · replace c130 := Bool.eq_false_iff.mpr c130
                    subst c130
                    have H1 : (none) = some r := by rw [if_neg (show ¬ (false = true) by decide)] at H; exact H
                    clear H
                    have H := H1
                    clear H1
                    exact absurd H (by simp)
                · rw [if_neg c128] at H
                  have c128b0 : (t446 == 0) = false := beq_eq_false_iff_ne.mpr c128
                  have c128b1 : (t446 != 0) = true := bne_iff_ne.mpr c128
                  obtain rfl := Option.some.inj H
                  go_wp2_with (first | ((with_reducible refine gate_callee (f := 11) rfl ?_); refine goesL_ (some 94) rfl rfl Try.func11 (by kernel_rfl) rfl #[] rfl (by (try simp only [List.map_toArray, List.map_cons, List.map_nil]); first | done | rfl | (simp only [List.length_drop, List.length_take]; rfl)) ?_; (with_reducible refine (watchmanlaw06_rung.calls kj67  true _ A126.out).mono ?_); rintro e w146 ⟨rfl, hb⟩; refine ⟨_, rfl, ?_⟩; have n0_ := Aside0.mk (blk_below (g := gb422) (o := .cells #[.int .i64 a0_0, .int .i64 a0_1] 23 (0, 0)) (by (with_reducible repeat (first | refine blk_drewN ?_ _ | refine blk_drew ?_ | refine blk_alloc ?_ _)); exact BK422.out) hb); have n1_ := Aside0.mk (blk_below (g := gb423) (o := .cells #[.int .i64 a1_0, .int .i64 a1_1, .int .i64 a1_2, .int .i64 a1_3, .int .i64 a1_4, .int .i64 a1_5] 25 (0, 0)) (by (with_reducible repeat (first | refine blk_drewN ?_ _ | refine blk_drew ?_ | refine blk_alloc ?_ _)); exact BK423.out) hb); have n2_ := Aside0.mk (blk_below (g := gb431) (o := .cells #[.int .i64 t424, .int .i64 t425, .int .i64 t426, .int .i64 t427, .int .i64 t428, .int .i64 t429] 25 (0, 0)) (by (with_reducible repeat (first | refine blk_drewN ?_ _ | refine blk_drew ?_ | refine blk_alloc ?_ _)); exact BK431.out) hb); have n3_ := Aside0.mk (blk_below (g := gb439) (o := .cells #[.int .i64 t432, .int .i64 t433, .int .i64 t434, .int .i64 t435, .int .i64 t436, .int .i64 t437] 25 (0, 0)) (by (with_reducible repeat (first | refine blk_drewN ?_ _ | refine blk_drew ?_ | refine blk_alloc ?_ _)); exact BK439.out) hb); have n4_ := Aside0.mk (blk_below (g := gb447) (o := .cells #[.int .i64 t440, .int .i64 t441, .int .i64 t442, .int .i64 t443, .int .i64 t444, .int .i64 t445] 25 (0, 0)) (by (with_reducible repeat (first | refine blk_drewN ?_ _ | refine blk_drew ?_ | refine blk_alloc ?_ _)); exact BK447.out) hb); have n5_ := Aside0.mk (below_step (by repeat (first | (with_reducible first | exact HB.out | apply below_alloc | apply pw_below_drewN | apply below_drew1 | refine below_set ?_ GE422.out | refine below_set ?_ GE423.out | refine below_set ?_ GE431.out | refine below_set ?_ GE439.out | refine below_set ?_ GE447.out) | exact HB.out)) hb); clear BK422; clear BK423; clear BK431; clear BK439; clear BK447; clear HB; have BK422 := n0_; have BK423 := n1_; have BK431 := n2_; have BK439 := n3_; have BK447 := n4_; have HB := n5_; clear n0_ n1_ n2_ n3_ n4_ n5_; (try clear hb); (try clear hb2); (try clear hk); (try clear hi)))
                  go_ret
                  exact ⟨by first | rfl | (simp [errW_none, errW_some] <;> rfl) | (simp [*, errW_none, errW_some] <;> rfl), by repeat (first | (with_reducible first | exact HB.out | apply below_alloc | apply pw_below_drewN | apply below_drew1 | refine below_set ?_ GE422.out | refine below_set ?_ GE423.out | refine below_set ?_ GE431.out | refine below_set ?_ GE439.out | refine below_set ?_ GE447.out) | exact HB.out)⟩
              · replace c127 := Bool.eq_false_iff.mpr c127
                subst c127
                have H1 : (none) = some r := by rw [if_neg (show ¬ (false = true) by decide)] at H; exact H
                clear H
                have H := H1
                clear H1
                exact absurd H (by simp)

end Go.Proofs.Ytlleifklioamlaa.F
