-- Written by a program of this session (xprint.py), out of the translation and of contracts proved by hand.
import Derived.Test.YtncoccpgdgdknaaF0
import Derived.Test.YtncoccpgdgdknaaF6
import Derived.Test.YtncoccpgdgdknaaF7
import Derived.Test.YtncoccpgdgdknaaF11
import Derived.Test.YtncoccpgdgdknaaF12
namespace Go.Proofs.Ytncoccpgdgdknaa.F
open Go.RowKit Go.Proofs.YtncoccpgdgdknaaW.PrintWords Go.Proofs.YtncoccpgdgdknaaW.PrintLast Go.Proofs.YtncoccpgdgdknaaW.PrintMore
attribute [local go_sem] max2_int min2_int max_two min_two max_three min_three max_four min_four   -- for this text's walks alone
set_option linter.unusedVariables false
set_option linter.unusedSimpArgs false

/-! ### watchmanlaw23_LogBest: function 7 -/
mutual
def watchmanlaw23_LogBest.j0 : Nat → List (S36) → Bool → Int → Int → Int → List ByteArray → Option (Bool)
  | 0, _, _, _, _, _, _ => none
  | k + 1, x0, x27, x383000, x383001, x383002, x383003 => if x27 = true then (some true) else ((log_Best.f k x0).bind fun bt388 => (watchmanlaw23_LogBest.l0 k x0 bt388.2.2.2.2 false 0 x383000 x383001 x383002 x383003 bt388.1 bt388.2.1 bt388.2.2.1 bt388.2.2.2.1))
def watchmanlaw23_LogBest.l0 : Nat → List (S36) → Bool → Bool → Int → Int → Int → Int → List ByteArray → Int → Int → Int → List ByteArray → Option (Bool)
  | 0, _, _, _, _, _, _, _, _, _, _, _, _ => none
  | k + 1, x0, x6, x7, x8, x383000, x383001, x383002, x383003, x396000, x396001, x396002, x396003 => if x8 < (x0.length : Int) then (if 0 ≤ x8 then (if ((rd_T36 x0 x8).f1) > x396001 then (watchmanlaw23_LogBest.j2 k x0 x6 x7 x8 true x383000 x383001 x383002 x383003 x396000 x396001 x396002 x396003) else (if ((rd_T36 x0 x8).f1) = x396001 then (watchmanlaw23_LogBest.j2 k x0 x6 x7 x8 (decide ((((rd_T36 x0 x8).f3).length : Int) > (x396003.length : Int))) x383000 x383001 x383002 x383003 x396000 x396001 x396002 x396003) else (watchmanlaw23_LogBest.j2 k x0 x6 x7 x8 false x383000 x383001 x383002 x383003 x396000 x396001 x396002 x396003))) else (none)) else ((log_With.f k x0 x383000 x383001 x383002 x383003).bind fun t401 => (watchmanlaw23_LogBest.l1 k x0 x6 x7 t401 0 0 x383000 x383001 x383002 x383003 x396000 x396001 x396002 x396003))
def watchmanlaw23_LogBest.j2 : Nat → List (S36) → Bool → Bool → Int → Bool → Int → Int → Int → List ByteArray → Int → Int → Int → List ByteArray → Option (Bool)
  | 0, _, _, _, _, _, _, _, _, _, _, _, _, _ => none
  | k + 1, x0, x6, x7, x8, x68, x383000, x383001, x383002, x383003, x396000, x396001, x396002, x396003 => if x68 = true then (none) else (if x7 = true then (watchmanlaw23_LogBest.l0 k x0 x6 true (wrap64 (x8 + 1)) x383000 x383001 x383002 x383003 x396000 x396001 x396002 x396003) else (if 0 ≤ x8 then (if x8 < (x0.length : Int) then ((watchmanref23_SameVote.f k ((rd_T36 x0 x8).f0) ((rd_T36 x0 x8).f1) ((rd_T36 x0 x8).f2) ((rd_T36 x0 x8).f3) x396000 x396001 x396002 x396003).bind fun t400 => (watchmanlaw23_LogBest.l0 k x0 x6 t400 (wrap64 (x8 + 1)) x383000 x383001 x383002 x383003 x396000 x396001 x396002 x396003)) else (none)) else (none)))
def watchmanlaw23_LogBest.l1 : Nat → List (S36) → Bool → Bool → List (S36) → Int → Int → Int → Int → Int → List ByteArray → Int → Int → Int → List ByteArray → Option (Bool)
  | 0, _, _, _, _, _, _, _, _, _, _, _, _, _, _ => none
  | k + 1, x0, x6, x7, x9, x10, x11, x383000, x383001, x383002, x383003, x396000, x396001, x396002, x396003 => if x11 < (x9.length : Int) then (if 0 ≤ x11 then (if ((rd_T36 x9 x11).f0) = x383000 then (watchmanlaw23_LogBest.l1 k x0 x6 x7 x9 (wrap64 (x10 + 1)) (wrap64 (x11 + 1)) x383000 x383001 x383002 x383003 x396000 x396001 x396002 x396003) else (watchmanlaw23_LogBest.l1 k x0 x6 x7 x9 x10 (wrap64 (x11 + 1)) x383000 x383001 x383002 x383003 x396000 x396001 x396002 x396003)) else (none)) else (if ([] : List (S36)).length + x0.length < 2932031007402 then ((some (([] : List (S36)) ++ x0 : List (S36))).bind fun y405 => (if y405.length < 2932031007402 then ((log_Best.f k (y405 ++ [(⟨x383000, x383001, x383002, x383003⟩ : S36)])).bind fun bt411 => (if x6 = true then (if x383001 < x396001 then (watchmanlaw23_LogBest.j4 k x0 x6 x7 x10 bt411.2.2.2.2 true x383000 x383001 x383002 x383003 x396000 x396001 x396002 x396003 bt411.1 bt411.2.1 bt411.2.2.1 bt411.2.2.2.1) else (if x383001 = x396001 then (watchmanlaw23_LogBest.j4 k x0 x6 x7 x10 bt411.2.2.2.2 (decide ((x383003.length : Int) ≤ (x396003.length : Int))) x383000 x383001 x383002 x383003 x396000 x396001 x396002 x396003 bt411.1 bt411.2.1 bt411.2.2.1 bt411.2.2.2.1) else (watchmanlaw23_LogBest.j4 k x0 x6 x7 x10 bt411.2.2.2.2 false x383000 x383001 x383002 x383003 x396000 x396001 x396002 x396003 bt411.1 bt411.2.1 bt411.2.2.1 bt411.2.2.2.1))) else (watchmanlaw23_LogBest.j4 k x0 x6 x7 x10 bt411.2.2.2.2 false x383000 x383001 x383002 x383003 x396000 x396001 x396002 x396003 bt411.1 bt411.2.1 bt411.2.2.1 bt411.2.2.2.1))) else (none))) else (none))
def watchmanlaw23_LogBest.j4 : Nat → List (S36) → Bool → Bool → Int → Bool → Bool → Int → Int → Int → List ByteArray → Int → Int → Int → List ByteArray → Int → Int → Int → List ByteArray → Option (Bool)
  | 0, _, _, _, _, _, _, _, _, _, _, _, _, _, _, _, _, _, _ => none
  | k + 1, x0, x6, x7, x10, x14, x15, x383000, x383001, x383002, x383003, x396000, x396001, x396002, x396003, x419000, x419001, x419002, x419003 => (watchmanlaw23_joined.f k).bind fun t419 => (if t419 = true then (if (x6 == x7) = true then (if (x6 == (decide ((x0.length : Int) > 0))) = true then (if x10 = 1 then (if x14 = true then (if x15 = true then ((watchmanref23_SameVote.f k x396000 x396001 x396002 x396003 x419000 x419001 x419002 x419003).bind fun t420 => (if t420 = true then (some true) else (none))) else ((watchmanref23_SameVote.f k x383000 x383001 x383002 x383003 x419000 x419001 x419002 x419003).bind fun t421 => (some t421))) else (none)) else (none)) else (none)) else (none)) else (none))
end
def watchmanlaw23_LogBest.f (k : Nat) (l0 : List (S36)) (a1_0 : Int) (a1_1 : Int) (a1_2 : Int) (l1_3 : List ByteArray) : Option (Bool) := (watchmanref23_Big.f k l0).bind fun t383 => (if t383 = true then (watchmanlaw23_LogBest.j0 k l0 true a1_0 a1_1 a1_2 l1_3) else ((watchmanref23_Big.f k (([(⟨a1_0, a1_1, a1_2, l1_3⟩ : S36)] : List (S36)))).bind fun t387 => (if t387 = true then (watchmanlaw23_LogBest.j0 k l0 true a1_0 a1_1 a1_2 l1_3) else (watchmanlaw23_LogBest.j0 k l0 (decide ((l0.length : Int) > 15)) a1_0 a1_1 a1_2 l1_3))))
theorem watchmanlaw23_LogBest.mono_l : ∀ k, (∀ y0 y1 y2 y3 y4 y5, LeO (watchmanlaw23_LogBest.j0 k y0 y1 y2 y3 y4 y5) (watchmanlaw23_LogBest.j0 (k + 1) y0 y1 y2 y3 y4 y5)) ∧ (∀ y0 y1 y2 y3 y4 y5 y6 y7 y8 y9 y10 y11, LeO (watchmanlaw23_LogBest.l0 k y0 y1 y2 y3 y4 y5 y6 y7 y8 y9 y10 y11) (watchmanlaw23_LogBest.l0 (k + 1) y0 y1 y2 y3 y4 y5 y6 y7 y8 y9 y10 y11)) ∧ (∀ y0 y1 y2 y3 y4 y5 y6 y7 y8 y9 y10 y11 y12, LeO (watchmanlaw23_LogBest.j2 k y0 y1 y2 y3 y4 y5 y6 y7 y8 y9 y10 y11 y12) (watchmanlaw23_LogBest.j2 (k + 1) y0 y1 y2 y3 y4 y5 y6 y7 y8 y9 y10 y11 y12)) ∧ (∀ y0 y1 y2 y3 y4 y5 y6 y7 y8 y9 y10 y11 y12 y13, LeO (watchmanlaw23_LogBest.l1 k y0 y1 y2 y3 y4 y5 y6 y7 y8 y9 y10 y11 y12 y13) (watchmanlaw23_LogBest.l1 (k + 1) y0 y1 y2 y3 y4 y5 y6 y7 y8 y9 y10 y11 y12 y13)) ∧ (∀ y0 y1 y2 y3 y4 y5 y6 y7 y8 y9 y10 y11 y12 y13 y14 y15 y16 y17, LeO (watchmanlaw23_LogBest.j4 k y0 y1 y2 y3 y4 y5 y6 y7 y8 y9 y10 y11 y12 y13 y14 y15 y16 y17) (watchmanlaw23_LogBest.j4 (k + 1) y0 y1 y2 y3 y4 y5 y6 y7 y8 y9 y10 y11 y12 y13 y14 y15 y16 y17))
  | 0 => ⟨fun _ _ _ _ _ _ r h => by simp [watchmanlaw23_LogBest.j0] at h, fun _ _ _ _ _ _ _ _ _ _ _ _ r h => by simp [watchmanlaw23_LogBest.l0] at h, fun _ _ _ _ _ _ _ _ _ _ _ _ _ r h => by simp [watchmanlaw23_LogBest.j2] at h, fun _ _ _ _ _ _ _ _ _ _ _ _ _ _ r h => by simp [watchmanlaw23_LogBest.l1] at h, fun _ _ _ _ _ _ _ _ _ _ _ _ _ _ _ _ _ _ r h => by simp [watchmanlaw23_LogBest.j4] at h⟩
  | k + 1 => by
    obtain ⟨ih0, ih1, ih2, ih3, ih4⟩ := watchmanlaw23_LogBest.mono_l k
    refine ⟨?_, ?_, ?_, ?_, ?_⟩
    · intro y0 y1 y2 y3 y4 y5
      unfold watchmanlaw23_LogBest.j0
      repeat' first
      | (with_reducible exact ih0 _ _ _ _ _ _)
      | (with_reducible exact ih1 _ _ _ _ _ _ _ _ _ _ _ _)
      | (with_reducible exact ih2 _ _ _ _ _ _ _ _ _ _ _ _ _)
      | (with_reducible exact ih3 _ _ _ _ _ _ _ _ _ _ _ _ _ _)
      | (with_reducible exact ih4 _ _ _ _ _ _ _ _ _ _ _ _ _ _ _ _ _ _)
      | (with_reducible exact log_Best.mono _ _)
      | (with_reducible exact log_With.mono _ _ _ _ _ _)
      | (with_reducible exact watchmanlaw23_joined.mono _)
      | (with_reducible exact watchmanref23_Big.mono _ _)
      | (with_reducible exact watchmanref23_SameVote.mono _ _ _ _ _ _ _ _ _)
      | (with_reducible exact LeO.refl _)
      | (with_reducible exact LeO.none _)
      | (with_reducible refine LeO.ite ?_ ?_)
      | (with_reducible refine LeO.bind ?_ (fun _ => ?_))
      | exact ih0 _ _ _ _ _ _
      | exact ih1 _ _ _ _ _ _ _ _ _ _ _ _
      | exact ih2 _ _ _ _ _ _ _ _ _ _ _ _ _
      | exact ih3 _ _ _ _ _ _ _ _ _ _ _ _ _ _
      | exact ih4 _ _ _ _ _ _ _ _ _ _ _ _ _ _ _ _ _ _
      | exact log_Best.mono _ _
      | exact log_With.mono _ _ _ _ _ _
      | exact watchmanlaw23_joined.mono _
      | exact watchmanref23_Big.mono _ _
      | exact watchmanref23_SameVote.mono _ _ _ _ _ _ _ _ _
      | exact LeO.none _
      | refine LeO.ite ?_ ?_
      | refine LeO.bind ?_ (fun _ => ?_)
    · intro y0 y1 y2 y3 y4 y5 y6 y7 y8 y9 y10 y11
      unfold watchmanlaw23_LogBest.l0
      repeat' first
      | (with_reducible exact ih0 _ _ _ _ _ _)
      | (with_reducible exact ih1 _ _ _ _ _ _ _ _ _ _ _ _)
      | (with_reducible exact ih2 _ _ _ _ _ _ _ _ _ _ _ _ _)
      | (with_reducible exact ih3 _ _ _ _ _ _ _ _ _ _ _ _ _ _)
      | (with_reducible exact ih4 _ _ _ _ _ _ _ _ _ _ _ _ _ _ _ _ _ _)
      | (with_reducible exact log_Best.mono _ _)
      | (with_reducible exact log_With.mono _ _ _ _ _ _)
      | (with_reducible exact watchmanlaw23_joined.mono _)
      | (with_reducible exact watchmanref23_Big.mono _ _)
      | (with_reducible exact watchmanref23_SameVote.mono _ _ _ _ _ _ _ _ _)
      | (with_reducible exact LeO.refl _)
      | (with_reducible exact LeO.none _)
      | (with_reducible refine LeO.ite ?_ ?_)
      | (with_reducible refine LeO.bind ?_ (fun _ => ?_))
      | exact ih0 _ _ _ _ _ _
      | exact ih1 _ _ _ _ _ _ _ _ _ _ _ _
      | exact ih2 _ _ _ _ _ _ _ _ _ _ _ _ _
      | exact ih3 _ _ _ _ _ _ _ _ _ _ _ _ _ _
      | exact ih4 _ _ _ _ _ _ _ _ _ _ _ _ _ _ _ _ _ _
      | exact log_Best.mono _ _
      | exact log_With.mono _ _ _ _ _ _
      | exact watchmanlaw23_joined.mono _
      | exact watchmanref23_Big.mono _ _
      | exact watchmanref23_SameVote.mono _ _ _ _ _ _ _ _ _
      | exact LeO.none _
      | refine LeO.ite ?_ ?_
      | refine LeO.bind ?_ (fun _ => ?_)
    · intro y0 y1 y2 y3 y4 y5 y6 y7 y8 y9 y10 y11 y12
      unfold watchmanlaw23_LogBest.j2
      repeat' first
      | (with_reducible exact ih0 _ _ _ _ _ _)
      | (with_reducible exact ih1 _ _ _ _ _ _ _ _ _ _ _ _)
      | (with_reducible exact ih2 _ _ _ _ _ _ _ _ _ _ _ _ _)
      | (with_reducible exact ih3 _ _ _ _ _ _ _ _ _ _ _ _ _ _)
      | (with_reducible exact ih4 _ _ _ _ _ _ _ _ _ _ _ _ _ _ _ _ _ _)
      | (with_reducible exact log_Best.mono _ _)
      | (with_reducible exact log_With.mono _ _ _ _ _ _)
      | (with_reducible exact watchmanlaw23_joined.mono _)
      | (with_reducible exact watchmanref23_Big.mono _ _)
      | (with_reducible exact watchmanref23_SameVote.mono _ _ _ _ _ _ _ _ _)
      | (with_reducible exact LeO.refl _)
      | (with_reducible exact LeO.none _)
      | (with_reducible refine LeO.ite ?_ ?_)
      | (with_reducible refine LeO.bind ?_ (fun _ => ?_))
      | exact ih0 _ _ _ _ _ _
      | exact ih1 _ _ _ _ _ _ _ _ _ _ _ _
      | exact ih2 _ _ _ _ _ _ _ _ _ _ _ _ _
      | exact ih3 _ _ _ _ _ _ _ _ _ _ _ _ _ _
      | exact ih4 _ _ _ _ _ _ _ _ _ _ _ _ _ _ _ _ _ _
      | exact log_Best.mono _ _
      | exact log_With.mono _ _ _ _ _ _
      | exact watchmanlaw23_joined.mono _
      | exact watchmanref23_Big.mono _ _
      | exact watchmanref23_SameVote.mono _ _ _ _ _ _ _ _ _
      | exact LeO.none _
      | refine LeO.ite ?_ ?_
      | refine LeO.bind ?_ (fun _ => ?_)
    · intro y0 y1 y2 y3 y4 y5 y6 y7 y8 y9 y10 y11 y12 y13
      unfold watchmanlaw23_LogBest.l1
      repeat' first
      | (with_reducible exact ih0 _ _ _ _ _ _)
      | (with_reducible exact ih1 _ _ _ _ _ _ _ _ _ _ _ _)
      | (with_reducible exact ih2 _ _ _ _ _ _ _ _ _ _ _ _ _)
      | (with_reducible exact ih3 _ _ _ _ _ _ _ _ _ _ _ _ _ _)
      | (with_reducible exact ih4 _ _ _ _ _ _ _ _ _ _ _ _ _ _ _ _ _ _)
      | (with_reducible exact log_Best.mono _ _)
      | (with_reducible exact log_With.mono _ _ _ _ _ _)
      | (with_reducible exact watchmanlaw23_joined.mono _)
      | (with_reducible exact watchmanref23_Big.mono _ _)
      | (with_reducible exact watchmanref23_SameVote.mono _ _ _ _ _ _ _ _ _)
      | (with_reducible exact LeO.refl _)
      | (with_reducible exact LeO.none _)
      | (with_reducible refine LeO.ite ?_ ?_)
      | (with_reducible refine LeO.bind ?_ (fun _ => ?_))
      | exact ih0 _ _ _ _ _ _
      | exact ih1 _ _ _ _ _ _ _ _ _ _ _ _
      | exact ih2 _ _ _ _ _ _ _ _ _ _ _ _ _
      | exact ih3 _ _ _ _ _ _ _ _ _ _ _ _ _ _
      | exact ih4 _ _ _ _ _ _ _ _ _ _ _ _ _ _ _ _ _ _
      | exact log_Best.mono _ _
      | exact log_With.mono _ _ _ _ _ _
      | exact watchmanlaw23_joined.mono _
      | exact watchmanref23_Big.mono _ _
      | exact watchmanref23_SameVote.mono _ _ _ _ _ _ _ _ _
      | exact LeO.none _
      | refine LeO.ite ?_ ?_
      | refine LeO.bind ?_ (fun _ => ?_)
    · intro y0 y1 y2 y3 y4 y5 y6 y7 y8 y9 y10 y11 y12 y13 y14 y15 y16 y17
      unfold watchmanlaw23_LogBest.j4
      repeat' first
      | (with_reducible exact ih0 _ _ _ _ _ _)
      | (with_reducible exact ih1 _ _ _ _ _ _ _ _ _ _ _ _)
      | (with_reducible exact ih2 _ _ _ _ _ _ _ _ _ _ _ _ _)
      | (with_reducible exact ih3 _ _ _ _ _ _ _ _ _ _ _ _ _ _)
      | (with_reducible exact ih4 _ _ _ _ _ _ _ _ _ _ _ _ _ _ _ _ _ _)
      | (with_reducible exact log_Best.mono _ _)
      | (with_reducible exact log_With.mono _ _ _ _ _ _)
      | (with_reducible exact watchmanlaw23_joined.mono _)
      | (with_reducible exact watchmanref23_Big.mono _ _)
      | (with_reducible exact watchmanref23_SameVote.mono _ _ _ _ _ _ _ _ _)
      | (with_reducible exact LeO.refl _)
      | (with_reducible exact LeO.none _)
      | (with_reducible refine LeO.ite ?_ ?_)
      | (with_reducible refine LeO.bind ?_ (fun _ => ?_))
      | exact ih0 _ _ _ _ _ _
      | exact ih1 _ _ _ _ _ _ _ _ _ _ _ _
      | exact ih2 _ _ _ _ _ _ _ _ _ _ _ _ _
      | exact ih3 _ _ _ _ _ _ _ _ _ _ _ _ _ _
      | exact ih4 _ _ _ _ _ _ _ _ _ _ _ _ _ _ _ _ _ _
      | exact log_Best.mono _ _
      | exact log_With.mono _ _ _ _ _ _
      | exact watchmanlaw23_joined.mono _
      | exact watchmanref23_Big.mono _ _
      | exact watchmanref23_SameVote.mono _ _ _ _ _ _ _ _ _
      | exact LeO.none _
      | refine LeO.ite ?_ ?_
      | refine LeO.bind ?_ (fun _ => ?_)
theorem watchmanlaw23_LogBest.mono : ∀ a0 a1 a2 a3 a4 k, LeO (watchmanlaw23_LogBest.f k a0 a1 a2 a3 a4) (watchmanlaw23_LogBest.f (k + 1) a0 a1 a2 a3 a4) := by
  intro a0 a1 a2 a3 a4 k
  obtain ⟨ih0, ih1, ih2, ih3, ih4⟩ := watchmanlaw23_LogBest.mono_l k
  unfold watchmanlaw23_LogBest.f
  repeat' first
      | (with_reducible exact ih0 _ _ _ _ _ _)
      | (with_reducible exact ih1 _ _ _ _ _ _ _ _ _ _ _ _)
      | (with_reducible exact ih2 _ _ _ _ _ _ _ _ _ _ _ _ _)
      | (with_reducible exact ih3 _ _ _ _ _ _ _ _ _ _ _ _ _ _)
      | (with_reducible exact ih4 _ _ _ _ _ _ _ _ _ _ _ _ _ _ _ _ _ _)
      | (with_reducible exact log_Best.mono _ _)
      | (with_reducible exact log_With.mono _ _ _ _ _ _)
      | (with_reducible exact watchmanlaw23_joined.mono _)
      | (with_reducible exact watchmanref23_Big.mono _ _)
      | (with_reducible exact watchmanref23_SameVote.mono _ _ _ _ _ _ _ _ _)
      | (with_reducible exact LeO.refl _)
      | (with_reducible exact LeO.none _)
      | (with_reducible refine LeO.ite ?_ ?_)
      | (with_reducible refine LeO.bind ?_ (fun _ => ?_))
      | exact ih0 _ _ _ _ _ _
      | exact ih1 _ _ _ _ _ _ _ _ _ _ _ _
      | exact ih2 _ _ _ _ _ _ _ _ _ _ _ _ _
      | exact ih3 _ _ _ _ _ _ _ _ _ _ _ _ _ _
      | exact ih4 _ _ _ _ _ _ _ _ _ _ _ _ _ _ _ _ _ _
      | exact log_Best.mono _ _
      | exact log_With.mono _ _ _ _ _ _
      | exact watchmanlaw23_joined.mono _
      | exact watchmanref23_Big.mono _ _
      | exact watchmanref23_SameVote.mono _ _ _ _ _ _ _ _ _
      | exact LeO.none _
      | refine LeO.ite ?_ ?_
      | refine LeO.bind ?_ (fun _ => ?_)
def watchmanlaw23_LogBest.T8 : Bool × List (List Nat × List Nat) := (true, [([], []), ([], []), ([0, 1], [0, 1]), ([2], [2]), ([3], [3]), ([], []), ([5], [5]), ([4, 6], [4, 6]), ([7], [7]), ([8], [8]), ([8], [8]), ([9, 10, 8], [8, 9, 10]), ([11, 8], [8, 11]), ([12, 8], [8, 12]), ([8], [8]), ([14, 8], [8, 14]), ([13, 15, 8], [8, 13, 15]), ([16, 8, 8], [8, 16]), ([17], [17]), ([17], [17]), ([18, 19, 17], [17, 18, 19]), ([20, 17], [17, 20]), ([21, 17], [17, 21]), ([22, 17], [17, 22]), ([17], [17]), ([24, 17], [17, 24]), ([25, 17], [17, 25]), ([23, 26, 17], [17, 23, 26]), ([17, 27, 8], [8, 17, 27]), ([8, 28], [8, 28])])
def watchmanlaw23_LogBest.B8 : List Nat := [0, 0, 3, 7, 15, 0, 32, 127, 255, 511, 511, 2047, 4095, 8191, 511, 16895, 65535, 131071, 262143, 262143, 1048575, 2097151, 4194303, 8388607, 262143, 17039359, 50593791, 134217727, 268435455, 536870911]
theorem watchmanlaw23_LogBest.tab8 : rtab .any (opsOf Try.f7 8) = watchmanlaw23_LogBest.T8 := by kernel_rfl
theorem watchmanlaw23_LogBest.bits8 : waitsOk watchmanlaw23_LogBest.T8.2 watchmanlaw23_LogBest.B8 = true := by kernel_rfl
def watchmanlaw23_LogBest.T10 : Bool × List (List Nat × List Nat) := (true, [([], []), ([0], [0]), ([1], [1]), ([1], [1]), ([2, 3, 1], [1, 2, 3]), ([4, 1], [1, 4]), ([1], [1]), ([5, 6, 1, 1], [1, 5, 6]), ([1, 7], [1, 7]), ([8, 7, 0, 1, 2, 3, 4, 5, 6, 7, 8], [0, 8])])
def watchmanlaw23_LogBest.B10 : List Nat := [0, 1, 3, 3, 15, 31, 3, 127, 255, 511]
theorem watchmanlaw23_LogBest.tab10 : rtab .any (opsOf Try.f7 10) = watchmanlaw23_LogBest.T10 := by kernel_rfl
theorem watchmanlaw23_LogBest.bits10 : waitsOk watchmanlaw23_LogBest.T10.2 watchmanlaw23_LogBest.B10 = true := by kernel_rfl
def watchmanlaw23_LogBest.T16 : Bool × List (List Nat × List Nat) := (true, [([], []), ([], []), ([0, 1], [0, 1]), ([2], [2]), ([3], [3]), ([], []), ([5], [5]), ([4, 6], [4, 6])])
def watchmanlaw23_LogBest.B16 : List Nat := [0, 0, 3, 7, 15, 0, 32, 127]
theorem watchmanlaw23_LogBest.tab16 : rtab .any (opsOf Try.f7 16) = watchmanlaw23_LogBest.T16 := by kernel_rfl
theorem watchmanlaw23_LogBest.bits16 : waitsOk watchmanlaw23_LogBest.T16.2 watchmanlaw23_LogBest.B16 = true := by kernel_rfl
set_option maxHeartbeats 8000000 in
set_option maxRecDepth 100000 in
theorem watchmanlaw23_LogBest.calls (k : Nat) (P0_ : Nat → Prop) (A0 : Option Addr) (c0 : Nat) (l0 : List (S36)) (a1_0 : Int) (a1_1 : Int) (a1_2 : Int) (P1_3_ : Nat → Prop) (A1_3 : Option Addr) (c1_3 : Nat) (l1_3 : List ByteArray) (r : Bool) (w : World) (hs0 : Kd.V k36 36 w w.heap.size (fun k_ => P0_ k_) (.slice A0 l0.length c0) l0) (hs1_3 : Kd.V Kd.string 9 w w.heap.size (fun k_ => P1_3_ k_) (.slice A1_3 l1_3.length c1_3) l1_3) (h : watchmanlaw23_LogBest.f k l0 a1_0 a1_1 a1_2 l1_3 = some r) :
    Calls Try.prog 7 #[.slice A0 l0.length c0, .agg #[.int .i64 a1_0, .int .i64 a1_1, .int .i64 a1_2, .slice A1_3 l1_3.length c1_3]] w fun e w' => e = .returned (.bool r) ∧ Below w.heap.size w w' := by
  have hu36 := Try.underlying36
  have HO0 := Aside0.mk (show Kd.V k36 36 w w.heap.size (fun k_ => ((P0_ k_ ∨ P1_3_ k_) ∨ w.heap.size ≤ k_)) (.slice A0 l0.length c0) l0 from Kd.V_mono hs0 (fun k_ hk => .inl (.inl hk)))
  have HO1_3 := Aside0.mk (show Kd.V Kd.string 9 w w.heap.size (fun k_ => ((P0_ k_ ∨ P1_3_ k_) ∨ w.heap.size ≤ k_)) (.slice A1_3 l1_3.length c1_3) l1_3 from Kd.V_mono hs1_3 (fun k_ hk => .inl (.inr hk)))
  have HB := Aside0.mk (Below.refl w.heap.size w)
  have H : ((watchmanref23_Big.f k l0).bind fun t383 => (if t383 = true then (watchmanlaw23_LogBest.j0 k l0 true a1_0 a1_1 a1_2 l1_3) else ((watchmanref23_Big.f k (([(⟨a1_0, a1_1, a1_2, l1_3⟩ : S36)] : List (S36)))).bind fun t387 => (if t387 = true then (watchmanlaw23_LogBest.j0 k l0 true a1_0 a1_1 a1_2 l1_3) else (watchmanlaw23_LogBest.j0 k l0 (decide ((l0.length : Int) > 15)) a1_0 a1_1 a1_2 l1_3))))) = some r := h
  clear h
  have HC3 := Aside0.mk H
  clear H
  go_enter Try.func7, Try.ntmps7
  go_upto_region 1 with (first | ((with_reducible refine gate_dst (N := 3) rfl ?_); (try (refine gate_guard (by rfl) ?_; dsimp only)); refine box_event ?hg (N := 3) ?hd (cs := #[.int .i64 a1_0, .int .i64 a1_1, .int .i64 a1_2, .slice A1_3 l1_3.length c1_3]) (t := 36) ?hr ?_; (case hd => rfl); (case hg => rfl); (case hr => first | (go_simp; done) | (go_simp; rfl)); intro gb382 hg w4 hbox hb; have n0_ := Aside0.mk (Kd.V_below (Kd.V_elderB (by (with_reducible repeat (first | apply Kd.V_alloc | apply Kd.V_drewN | apply Kd.V_drew)); exact HO0.out) gb382 (Nat.le_of_eq hg.symm)) hb); have n1_ := Aside0.mk (Kd.V_below (Kd.V_elderB (by (with_reducible repeat (first | apply Kd.V_alloc | apply Kd.V_drewN | apply Kd.V_drew)); exact HO1_3.out) gb382 (Nat.le_of_eq hg.symm)) hb); have n2_ := Aside0.mk (below_step (by repeat (first | (with_reducible first | exact HB.out | apply below_alloc | apply pw_below_drewN | apply below_drew1) | exact HB.out)) hb); have n3_ := Aside0.mk (hbox); have n4_ := Aside0.mk ((by rw [hg]; exact (below_size (by repeat (first | (with_reducible first | exact HB.out | apply below_alloc | apply pw_below_drewN | apply below_drew1) | exact HB.out))) : w.heap.size ≤ gb382)); have n5_ := Aside0.mk ((by rw [hg]; exact (below_size (by repeat (first | (with_reducible first | exact HB.out | apply below_alloc | apply pw_below_drewN | apply below_drew1) | exact HB.out))) : w.heap.size ≤ gb382)); clear HO0; clear HO1_3; clear HB; have HO0 := n0_; have HO1_3 := n1_; have HB := n2_; have BK382 := n3_; have GW382 := n4_; have GE382 := n5_; clear n0_ n1_ n2_ n3_ n4_ n5_; clear hb hbox hg))
  (try simp only [Act.put, List.setIfInBounds_toArray, List.set_cons_zero, List.set_cons_succ])
  go_cut [27] (fun v27 wc => ∃ (kq : Nat) (x27_2 : Bool), v27 = .bool x27_2 ∧ Aside0 (watchmanlaw23_LogBest.j0 kq l0 x27_2 a1_0 a1_1 a1_2 l1_3 = some r) ∧ Aside0 (kq ≤ k) ∧ Aside0 (Kd.V k36 36 wc w.heap.size (fun k_ => ((P0_ k_ ∨ P1_3_ k_) ∨ w.heap.size ≤ k_) ∧ k_ ≠ gb382) (.slice A0 l0.length c0) l0) ∧ Aside0 (Kd.V Kd.string 9 wc w.heap.size (fun k_ => ((P0_ k_ ∨ P1_3_ k_) ∨ w.heap.size ≤ k_) ∧ k_ ≠ gb382) (.slice A1_3 l1_3.length c1_3) l1_3) ∧ Aside0 (wc.heap[gb382]? = some (.cells #[.int .i64 a1_0, .int .i64 a1_1, .int .i64 a1_2, (.slice A1_3 l1_3.length c1_3)] 36 (0, 0))) ∧ Aside0 (Below w.heap.size w wc))
  case first =>
    have H := HC3.out
    clear HC3
    replace H := Option.bind_eq_some_iff.mp H
    obtain ⟨t383, A50, H⟩ := H
    replace H : (if t383 = true then (watchmanlaw23_LogBest.j0 k l0 true a1_0 a1_1 a1_2 l1_3) else ((watchmanref23_Big.f k (([(⟨a1_0, a1_1, a1_2, l1_3⟩ : S36)] : List (S36)))).bind fun t387 => (if t387 = true then (watchmanlaw23_LogBest.j0 k l0 true a1_0 a1_1 a1_2 l1_3) else (watchmanlaw23_LogBest.j0 k l0 (decide ((l0.length : Int) > 15)) a1_0 a1_1 a1_2 l1_3)))) = some r := H
    have A5 := Aside0.mk A50
    clear A50
    by_cases c6 : t383 = true
    · subst c6
      have H1 : (watchmanlaw23_LogBest.j0 k l0 true a1_0 a1_1 a1_2 l1_3) = some r := by rw [if_pos rfl] at H; exact H
      clear H
      have H := H1
      clear H1
      have H' := Aside0.mk H
      clear H
      go_wp2_with (first | ((with_reducible refine gate_callee (f := 17) rfl ?_); refine goesL_ (some 17) rfl rfl Try.func17 (by kernel_rfl) rfl #[.slice A0 l0.length c0] rfl (by (try simp only [List.map_toArray, List.map_cons, List.map_nil]); first | done | rfl | (simp only [List.length_drop, List.length_take]; rfl)) ?_; (with_reducible refine (watchmanref23_Big.calls k _ _ l0 true _ ?side1 ?side2 A5.out).mono ?_); (case side1 => repeat (first | exact (Kd.V_reads' HO0.out).2.2 | (with_reducible refine Kd.C_alloc ?_ _) | (with_reducible refine Kd.C_drewN ?_ _) | (with_reducible refine Kd.C_drew ?_))); (case side2 => exact (Kd.V_reads' HO0.out).2.1); rintro e w7 ⟨rfl, hb⟩; refine ⟨_, rfl, ?_⟩; have n0_ := Aside0.mk (Kd.V_below (by (with_reducible repeat (first | apply Kd.V_alloc | apply Kd.V_drewN | apply Kd.V_drew)); exact HO0.out) hb); have n1_ := Aside0.mk (Kd.V_below (by (with_reducible repeat (first | apply Kd.V_alloc | apply Kd.V_drewN | apply Kd.V_drew)); exact HO1_3.out) hb); have n2_ := Aside0.mk (blk_below (g := gb382) (o := .cells #[.int .i64 a1_0, .int .i64 a1_1, .int .i64 a1_2, .slice A1_3 l1_3.length c1_3] 36 (0, 0)) (by (with_reducible repeat (first | refine blk_drewN ?_ _ | refine blk_drew ?_ | refine blk_alloc ?_ _)); exact BK382.out) hb); have n3_ := Aside0.mk (below_step (by repeat (first | (with_reducible first | exact HB.out | apply below_alloc | apply pw_below_drewN | apply below_drew1 | refine below_set ?_ GE382.out) | exact HB.out)) hb); clear HO0; clear HO1_3; clear BK382; clear HB; have HO0 := n0_; have HO1_3 := n1_; have BK382 := n2_; have HB := n3_; clear n0_ n1_ n2_ n3_; (try clear hb); (try clear hb2); (try clear hk); (try clear hi)))
      go_meet
      case rel => exact ⟨_, (true), (by first | rfl | (simp; done) | (simp [*]; done)), H', ⟨by first | omega | exact Nat.le_refl _⟩, ⟨by (with_reducible repeat (first | apply Kd.V_alloc | apply Kd.V_drewN | apply Kd.V_drew)); exact HO0.out⟩, ⟨by (with_reducible repeat (first | apply Kd.V_alloc | apply Kd.V_drewN | apply Kd.V_drew)); exact HO1_3.out⟩, ⟨by (with_reducible repeat (first | refine blk_drewN ?_ _ | refine blk_drew ?_ | refine blk_alloc ?_ _)); exact BK382.out⟩, ⟨by repeat (first | (with_reducible first | exact HB.out | apply below_alloc | apply pw_below_drewN | apply below_drew1 | refine below_set ?_ GE382.out) | exact HB.out)⟩⟩
    · replace c6 := Bool.eq_false_iff.mpr c6
      subst c6
      have H1 : ((watchmanref23_Big.f k (([(⟨a1_0, a1_1, a1_2, l1_3⟩ : S36)] : List (S36)))).bind fun t387 => (if t387 = true then (watchmanlaw23_LogBest.j0 k l0 true a1_0 a1_1 a1_2 l1_3) else (watchmanlaw23_LogBest.j0 k l0 (decide ((l0.length : Int) > 15)) a1_0 a1_1 a1_2 l1_3))) = some r := by rw [if_neg (show ¬ (false = true) by decide)] at H; exact H
      clear H
      have H := H1
      clear H1
      obtain ⟨y384, hy384⟩ : ∃ y_ : List (S36), y_ = (([(⟨a1_0, a1_1, a1_2, l1_3⟩ : S36)] : List (S36))) := ⟨_, rfl⟩
      replace H : ((watchmanref23_Big.f k y384).bind fun t387 => (if t387 = true then (watchmanlaw23_LogBest.j0 k l0 true a1_0 a1_1 a1_2 l1_3) else (watchmanlaw23_LogBest.j0 k l0 (decide ((l0.length : Int) > 15)) a1_0 a1_1 a1_2 l1_3))) = some r := by first | (rw [hy384]; with_reducible exact H) | (have H2_ := (Option.bind_some _ _).symm.trans H; rw [hy384]; with_reducible exact H2_) | (have H2_ := (Option.bind_some _ _).symm.trans H; with_reducible exact H2_) | with_reducible exact H | (rw [hy384]; exact H) | exact H
      have Ny384 := Aside0.mk hy384
      clear hy384
      replace H := Option.bind_eq_some_iff.mp H
      obtain ⟨t387, A80, H⟩ := H
      replace H : (if t387 = true then (watchmanlaw23_LogBest.j0 k l0 true a1_0 a1_1 a1_2 l1_3) else (watchmanlaw23_LogBest.j0 k l0 (decide ((l0.length : Int) > 15)) a1_0 a1_1 a1_2 l1_3)) = some r := H
      have A8 := Aside0.mk A80
      clear A80
      by_cases c9 : t387 = true
      · subst c9
        have H1 : (watchmanlaw23_LogBest.j0 k l0 true a1_0 a1_1 a1_2 l1_3) = some r := by rw [if_pos rfl] at H; exact H
        clear H
        have H := H1
        clear H1
        have H' := Aside0.mk H
        clear H
        go_wp2_with (first | ((with_reducible refine gate_callee (f := 17) rfl ?_); refine goesL_ (some 17) rfl rfl Try.func17 (by kernel_rfl) rfl #[.slice A0 l0.length c0] rfl (by (try simp only [List.map_toArray, List.map_cons, List.map_nil]); first | done | rfl | (simp only [List.length_drop, List.length_take]; rfl)) ?_; (with_reducible refine (watchmanref23_Big.calls k _ _ l0 false _ ?side1 ?side2 A5.out).mono ?_); (case side1 => repeat (first | exact (Kd.V_reads' HO0.out).2.2 | (with_reducible refine Kd.C_alloc ?_ _) | (with_reducible refine Kd.C_drewN ?_ _) | (with_reducible refine Kd.C_drew ?_))); (case side2 => exact (Kd.V_reads' HO0.out).2.1); (try clear A5); rintro e w10 ⟨rfl, hb⟩; refine ⟨_, rfl, ?_⟩; have n0_ := Aside0.mk (Kd.V_below (by (with_reducible repeat (first | apply Kd.V_alloc | apply Kd.V_drewN | apply Kd.V_drew)); exact HO0.out) hb); have n1_ := Aside0.mk (Kd.V_below (by (with_reducible repeat (first | apply Kd.V_alloc | apply Kd.V_drewN | apply Kd.V_drew)); exact HO1_3.out) hb); have n2_ := Aside0.mk (blk_below (g := gb382) (o := .cells #[.int .i64 a1_0, .int .i64 a1_1, .int .i64 a1_2, .slice A1_3 l1_3.length c1_3] 36 (0, 0)) (by (with_reducible repeat (first | refine blk_drewN ?_ _ | refine blk_drew ?_ | refine blk_alloc ?_ _)); exact BK382.out) hb); have n3_ := Aside0.mk (below_step (by repeat (first | (with_reducible first | exact HB.out | apply below_alloc | apply pw_below_drewN | apply below_drew1 | refine below_set ?_ GE382.out) | exact HB.out)) hb); clear HO0; clear HO1_3; clear BK382; clear HB; have HO0 := n0_; have HO1_3 := n1_; have BK382 := n2_; have HB := n3_; clear n0_ n1_ n2_ n3_; (try clear hb); (try clear hb2); (try clear hk); (try clear hi); have hcz11_0 : w10.cell? ⟨gb382, 0, none⟩ = some (.int .i64 a1_0) := (blk_cell BK382.out 0).trans rfl; have hcz11_1 : w10.cell? ⟨gb382, 1, none⟩ = some (.int .i64 a1_1) := (blk_cell BK382.out 1).trans rfl; have hcz11_2 : w10.cell? ⟨gb382, 2, none⟩ = some (.int .i64 a1_2) := (blk_cell BK382.out 2).trans rfl; have hcz11_3 : w10.cell? ⟨gb382, 3, none⟩ = some (.slice A1_3 l1_3.length c1_3) := (blk_cell BK382.out 3).trans rfl; have hfz11_0 := blk_frozen BK382.out 0; have hfz11_1 := blk_frozen BK382.out 1; have hfz11_2 := blk_frozen BK382.out 2; have hfz11_3 := blk_frozen BK382.out 3) | ((with_reducible refine gate_dst (N := 20) rfl ?_); (try (refine gate_guard (by rfl) ?_; dsimp only)); refine Kd.N_lit k36 _ 36 ?hg (N' := 20) ?hd (xs := ([(⟨a1_0, a1_1, a1_2, l1_3⟩ : S36)] : List (S36))) (inner := [.int .i64 a1_0, .int .i64 a1_1, .int .i64 a1_2, .slice A1_3 l1_3.length c1_3]) (ok := (fun k_ => ((P0_ k_ ∨ P1_3_ k_) ∨ w.heap.size ≤ k_) ∧ k_ ≠ gb382)) (okp := (fun k_ => ((P0_ k_ ∨ P1_3_ k_) ∨ w.heap.size ≤ k_) ∧ k_ ≠ gb382)) ?hr ?hp (fun _ hk => hk) ((show ∀ k_, w10.heap.size ≤ k_ → (fun k_ => ((P0_ k_ ∨ P1_3_ k_) ∨ w.heap.size ≤ k_) ∧ k_ ≠ gb382) k_ from fun k_ hk => ⟨(.inr (Nat.le_trans (below_size (by repeat (first | (with_reducible first | exact HB.out | apply below_alloc | apply pw_below_drewN | apply below_drew1 | refine below_set ?_ GE382.out) | exact HB.out))) hk)), Kd.freshB (g := gb382) (o := .cells #[.int .i64 a1_0, .int .i64 a1_1, .int .i64 a1_2, .slice A1_3 l1_3.length c1_3] 36 (0, 0)) (by (with_reducible repeat (first | refine blk_drewN ?_ _ | refine blk_drew ?_ | refine blk_alloc ?_ _)); exact BK382.out) k_ hk⟩) _ (Nat.le_refl _)) (Below.refl _ _) (Nat.le_refl _) (by simp) ?_; (case hd => rfl); (case hg => rfl); (case hr => first | (go_simp; done) | (go_simp; rfl)); (case hp => exact (Reps.c4 (show Kd.FK k36 _ _ (⟨a1_0, a1_1, a1_2, l1_3⟩ : S36) [.int .i64 a1_0, .int .i64 a1_1, .int .i64 a1_2, .slice A1_3 l1_3.length c1_3] from (k36_mkF _ _ (⟨a1_0, a1_1, a1_2, l1_3⟩ : S36) (Kd.V_reads' (Kd.V_mono (ok' := (fun k_ => ((P0_ k_ ∨ P1_3_ k_) ∨ w.heap.size ≤ k_) ∧ k_ ≠ gb382)) (HO1_3.out) (fun k_ hk => ⟨hk.1, hk.2⟩))).2.1 (Kd.V_F (Kd.V_mono (ok' := (fun k_ => ((P0_ k_ ∨ P1_3_ k_) ∨ w.heap.size ≤ k_) ∧ k_ ≠ gb382)) (HO1_3.out) (fun k_ hk => ⟨hk.1, hk.2⟩))))) (Reps.none _ _))); intro v385 w12 ho13 hb hg_ hnew_; clear hg_ hnew_; (first | rw [← Ny384.out] at ho13 | (simp only [Int.reduceToNat] at ho13; rw [← Ny384.out] at ho13)); have n0_ := Aside0.mk (Kd.V_elder' (by (with_reducible repeat (first | apply Kd.V_alloc | apply Kd.V_drewN | apply Kd.V_drew)); exact HO0.out) (Kd.N_base ho13) hb); have n1_ := Aside0.mk (Kd.V_elder' (by (with_reducible repeat (first | apply Kd.V_alloc | apply Kd.V_drewN | apply Kd.V_drew)); exact HO1_3.out) (Kd.N_base ho13) hb); have n2_ := Aside0.mk (Kd.N_lower ho13 (below_size (by repeat (first | (with_reducible first | exact HB.out | apply below_alloc | apply pw_below_drewN | apply below_drew1 | refine below_set ?_ GE382.out) | exact HB.out)))); have n3_ := Aside0.mk (blk_below (g := gb382) (o := .cells #[.int .i64 a1_0, .int .i64 a1_1, .int .i64 a1_2, .slice A1_3 l1_3.length c1_3] 36 (0, 0)) (by (with_reducible repeat (first | refine blk_drewN ?_ _ | refine blk_drew ?_ | refine blk_alloc ?_ _)); exact BK382.out) hb); have n4_ := Aside0.mk (below_step (by repeat (first | (with_reducible first | exact HB.out | apply below_alloc | apply pw_below_drewN | apply below_drew1 | refine below_set ?_ GE382.out) | exact HB.out)) hb); clear HO0; clear HO1_3; clear BK382; clear HB; have HO0 := n0_; have HO1_3 := n1_; have HO386 := n2_; have BK382 := n3_; have HB := n4_; clear n0_ n1_ n2_ n3_ n4_; clear hb ho13; obtain ⟨Ao14, co14, eo14⟩ := Kd.N_slice HO386.out; subst eo14) | (go_at_call 17; (with_reducible refine (watchmanref23_Big.calls k _ _ y384 true _ ?side1 ?side2 A8.out).mono ?_); (case side1 => repeat (first | exact (Kd.N_reads' HO386.out).2.2 | (with_reducible refine Kd.C_alloc ?_ _) | (with_reducible refine Kd.C_drewN ?_ _) | (with_reducible refine Kd.C_drew ?_))); (case side2 => exact (Kd.N_reads' HO386.out).2.1); (try clear A8); rintro e w15 ⟨rfl, hb⟩; have n0_ := Aside0.mk (Kd.V_below (by (with_reducible repeat (first | apply Kd.V_alloc | apply Kd.V_drewN | apply Kd.V_drew)); exact HO0.out) hb); have n1_ := Aside0.mk (Kd.V_below (by (with_reducible repeat (first | apply Kd.V_alloc | apply Kd.V_drewN | apply Kd.V_drew)); exact HO1_3.out) hb); have n2_ := Aside0.mk (Kd.N_below (by (with_reducible repeat (first | apply Kd.N_alloc | apply Kd.N_drewN | apply Kd.N_drew)); exact HO386.out) hb); have n3_ := Aside0.mk (blk_below (g := gb382) (o := .cells #[.int .i64 a1_0, .int .i64 a1_1, .int .i64 a1_2, .slice A1_3 l1_3.length c1_3] 36 (0, 0)) (by (with_reducible repeat (first | refine blk_drewN ?_ _ | refine blk_drew ?_ | refine blk_alloc ?_ _)); exact BK382.out) hb); have n4_ := Aside0.mk (below_step (by repeat (first | (with_reducible first | exact HB.out | apply below_alloc | apply pw_below_drewN | apply below_drew1 | refine below_set ?_ GE382.out) | exact HB.out)) hb); clear HO0; clear HO1_3; clear HO386; clear BK382; clear HB; have HO0 := n0_; have HO1_3 := n1_; have HO386 := n2_; have BK382 := n3_; have HB := n4_; clear n0_ n1_ n2_ n3_ n4_; (try clear hb); (try clear hb2); (try clear hk); (try clear hi)))
        go_meet
        case rel => exact ⟨_, (true), (by first | rfl | (simp; done) | (simp [*]; done)), H', ⟨by first | omega | exact Nat.le_refl _⟩, ⟨by (with_reducible repeat (first | apply Kd.V_alloc | apply Kd.V_drewN | apply Kd.V_drew)); exact Kd.V_mono HO0.out (fun _ hk => ⟨hk.1.1, hk.1.2⟩)⟩, ⟨by (with_reducible repeat (first | apply Kd.V_alloc | apply Kd.V_drewN | apply Kd.V_drew)); exact Kd.V_mono HO1_3.out (fun _ hk => ⟨hk.1.1, hk.1.2⟩)⟩, ⟨by (with_reducible repeat (first | refine blk_drewN ?_ _ | refine blk_drew ?_ | refine blk_alloc ?_ _)); exact BK382.out⟩, ⟨by repeat (first | (with_reducible first | exact HB.out | apply below_alloc | apply pw_below_drewN | apply below_drew1 | refine below_set ?_ GE382.out) | exact HB.out)⟩⟩
      · replace c9 := Bool.eq_false_iff.mpr c9
        subst c9
        have H1 : (watchmanlaw23_LogBest.j0 k l0 (decide ((l0.length : Int) > 15)) a1_0 a1_1 a1_2 l1_3) = some r := by rw [if_neg (show ¬ (false = true) by decide)] at H; exact H
        clear H
        have H := H1
        clear H1
        have H' := Aside0.mk H
        clear H
        go_wp2_with (first | ((with_reducible refine gate_callee (f := 17) rfl ?_); refine goesL_ (some 17) rfl rfl Try.func17 (by kernel_rfl) rfl #[.slice A0 l0.length c0] rfl (by (try simp only [List.map_toArray, List.map_cons, List.map_nil]); first | done | rfl | (simp only [List.length_drop, List.length_take]; rfl)) ?_; (with_reducible refine (watchmanref23_Big.calls k _ _ l0 false _ ?side1 ?side2 A5.out).mono ?_); (case side1 => repeat (first | exact (Kd.V_reads' HO0.out).2.2 | (with_reducible refine Kd.C_alloc ?_ _) | (with_reducible refine Kd.C_drewN ?_ _) | (with_reducible refine Kd.C_drew ?_))); (case side2 => exact (Kd.V_reads' HO0.out).2.1); (try clear A5); rintro e w16 ⟨rfl, hb⟩; refine ⟨_, rfl, ?_⟩; have n0_ := Aside0.mk (Kd.V_below (by (with_reducible repeat (first | apply Kd.V_alloc | apply Kd.V_drewN | apply Kd.V_drew)); exact HO0.out) hb); have n1_ := Aside0.mk (Kd.V_below (by (with_reducible repeat (first | apply Kd.V_alloc | apply Kd.V_drewN | apply Kd.V_drew)); exact HO1_3.out) hb); have n2_ := Aside0.mk (blk_below (g := gb382) (o := .cells #[.int .i64 a1_0, .int .i64 a1_1, .int .i64 a1_2, .slice A1_3 l1_3.length c1_3] 36 (0, 0)) (by (with_reducible repeat (first | refine blk_drewN ?_ _ | refine blk_drew ?_ | refine blk_alloc ?_ _)); exact BK382.out) hb); have n3_ := Aside0.mk (below_step (by repeat (first | (with_reducible first | exact HB.out | apply below_alloc | apply pw_below_drewN | apply below_drew1 | refine below_set ?_ GE382.out) | exact HB.out)) hb); clear HO0; clear HO1_3; clear BK382; clear HB; have HO0 := n0_; have HO1_3 := n1_; have BK382 := n2_; have HB := n3_; clear n0_ n1_ n2_ n3_; (try clear hb); (try clear hb2); (try clear hk); (try clear hi); have hcz17_0 : w16.cell? ⟨gb382, 0, none⟩ = some (.int .i64 a1_0) := (blk_cell BK382.out 0).trans rfl; have hcz17_1 : w16.cell? ⟨gb382, 1, none⟩ = some (.int .i64 a1_1) := (blk_cell BK382.out 1).trans rfl; have hcz17_2 : w16.cell? ⟨gb382, 2, none⟩ = some (.int .i64 a1_2) := (blk_cell BK382.out 2).trans rfl; have hcz17_3 : w16.cell? ⟨gb382, 3, none⟩ = some (.slice A1_3 l1_3.length c1_3) := (blk_cell BK382.out 3).trans rfl; have hfz17_0 := blk_frozen BK382.out 0; have hfz17_1 := blk_frozen BK382.out 1; have hfz17_2 := blk_frozen BK382.out 2; have hfz17_3 := blk_frozen BK382.out 3) | ((with_reducible refine gate_dst (N := 20) rfl ?_); (try (refine gate_guard (by rfl) ?_; dsimp only)); refine Kd.N_lit k36 _ 36 ?hg (N' := 20) ?hd (xs := ([(⟨a1_0, a1_1, a1_2, l1_3⟩ : S36)] : List (S36))) (inner := [.int .i64 a1_0, .int .i64 a1_1, .int .i64 a1_2, .slice A1_3 l1_3.length c1_3]) (ok := (fun k_ => ((P0_ k_ ∨ P1_3_ k_) ∨ w.heap.size ≤ k_) ∧ k_ ≠ gb382)) (okp := (fun k_ => ((P0_ k_ ∨ P1_3_ k_) ∨ w.heap.size ≤ k_) ∧ k_ ≠ gb382)) ?hr ?hp (fun _ hk => hk) ((show ∀ k_, w16.heap.size ≤ k_ → (fun k_ => ((P0_ k_ ∨ P1_3_ k_) ∨ w.heap.size ≤ k_) ∧ k_ ≠ gb382) k_ from fun k_ hk => ⟨(.inr (Nat.le_trans (below_size (by repeat (first | (with_reducible first | exact HB.out | apply below_alloc | apply pw_below_drewN | apply below_drew1 | refine below_set ?_ GE382.out) | exact HB.out))) hk)), Kd.freshB (g := gb382) (o := .cells #[.int .i64 a1_0, .int .i64 a1_1, .int .i64 a1_2, .slice A1_3 l1_3.length c1_3] 36 (0, 0)) (by (with_reducible repeat (first | refine blk_drewN ?_ _ | refine blk_drew ?_ | refine blk_alloc ?_ _)); exact BK382.out) k_ hk⟩) _ (Nat.le_refl _)) (Below.refl _ _) (Nat.le_refl _) (by simp) ?_; (case hd => rfl); (case hg => rfl); (case hr => first | (go_simp; done) | (go_simp; rfl)); (case hp => exact (Reps.c4 (show Kd.FK k36 _ _ (⟨a1_0, a1_1, a1_2, l1_3⟩ : S36) [.int .i64 a1_0, .int .i64 a1_1, .int .i64 a1_2, .slice A1_3 l1_3.length c1_3] from (k36_mkF _ _ (⟨a1_0, a1_1, a1_2, l1_3⟩ : S36) (Kd.V_reads' (Kd.V_mono (ok' := (fun k_ => ((P0_ k_ ∨ P1_3_ k_) ∨ w.heap.size ≤ k_) ∧ k_ ≠ gb382)) (HO1_3.out) (fun k_ hk => ⟨hk.1, hk.2⟩))).2.1 (Kd.V_F (Kd.V_mono (ok' := (fun k_ => ((P0_ k_ ∨ P1_3_ k_) ∨ w.heap.size ≤ k_) ∧ k_ ≠ gb382)) (HO1_3.out) (fun k_ hk => ⟨hk.1, hk.2⟩))))) (Reps.none _ _))); intro v385 w18 ho19 hb hg_ hnew_; clear hg_ hnew_; (first | rw [← Ny384.out] at ho19 | (simp only [Int.reduceToNat] at ho19; rw [← Ny384.out] at ho19)); have n0_ := Aside0.mk (Kd.V_elder' (by (with_reducible repeat (first | apply Kd.V_alloc | apply Kd.V_drewN | apply Kd.V_drew)); exact HO0.out) (Kd.N_base ho19) hb); have n1_ := Aside0.mk (Kd.V_elder' (by (with_reducible repeat (first | apply Kd.V_alloc | apply Kd.V_drewN | apply Kd.V_drew)); exact HO1_3.out) (Kd.N_base ho19) hb); have n2_ := Aside0.mk (Kd.N_lower ho19 (below_size (by repeat (first | (with_reducible first | exact HB.out | apply below_alloc | apply pw_below_drewN | apply below_drew1 | refine below_set ?_ GE382.out) | exact HB.out)))); have n3_ := Aside0.mk (blk_below (g := gb382) (o := .cells #[.int .i64 a1_0, .int .i64 a1_1, .int .i64 a1_2, .slice A1_3 l1_3.length c1_3] 36 (0, 0)) (by (with_reducible repeat (first | refine blk_drewN ?_ _ | refine blk_drew ?_ | refine blk_alloc ?_ _)); exact BK382.out) hb); have n4_ := Aside0.mk (below_step (by repeat (first | (with_reducible first | exact HB.out | apply below_alloc | apply pw_below_drewN | apply below_drew1 | refine below_set ?_ GE382.out) | exact HB.out)) hb); clear HO0; clear HO1_3; clear BK382; clear HB; have HO0 := n0_; have HO1_3 := n1_; have HO386 := n2_; have BK382 := n3_; have HB := n4_; clear n0_ n1_ n2_ n3_ n4_; clear hb ho19; obtain ⟨Ao20, co20, eo20⟩ := Kd.N_slice HO386.out; subst eo20) | (go_at_call 17; (with_reducible refine (watchmanref23_Big.calls k _ _ y384 false _ ?side1 ?side2 A8.out).mono ?_); (case side1 => repeat (first | exact (Kd.N_reads' HO386.out).2.2 | (with_reducible refine Kd.C_alloc ?_ _) | (with_reducible refine Kd.C_drewN ?_ _) | (with_reducible refine Kd.C_drew ?_))); (case side2 => exact (Kd.N_reads' HO386.out).2.1); (try clear A8); rintro e w21 ⟨rfl, hb⟩; have n0_ := Aside0.mk (Kd.V_below (by (with_reducible repeat (first | apply Kd.V_alloc | apply Kd.V_drewN | apply Kd.V_drew)); exact HO0.out) hb); have n1_ := Aside0.mk (Kd.V_below (by (with_reducible repeat (first | apply Kd.V_alloc | apply Kd.V_drewN | apply Kd.V_drew)); exact HO1_3.out) hb); have n2_ := Aside0.mk (Kd.N_below (by (with_reducible repeat (first | apply Kd.N_alloc | apply Kd.N_drewN | apply Kd.N_drew)); exact HO386.out) hb); have n3_ := Aside0.mk (blk_below (g := gb382) (o := .cells #[.int .i64 a1_0, .int .i64 a1_1, .int .i64 a1_2, .slice A1_3 l1_3.length c1_3] 36 (0, 0)) (by (with_reducible repeat (first | refine blk_drewN ?_ _ | refine blk_drew ?_ | refine blk_alloc ?_ _)); exact BK382.out) hb); have n4_ := Aside0.mk (below_step (by repeat (first | (with_reducible first | exact HB.out | apply below_alloc | apply pw_below_drewN | apply below_drew1 | refine below_set ?_ GE382.out) | exact HB.out)) hb); clear HO0; clear HO1_3; clear HO386; clear BK382; clear HB; have HO0 := n0_; have HO1_3 := n1_; have HO386 := n2_; have BK382 := n3_; have HB := n4_; clear n0_ n1_ n2_ n3_ n4_; (try clear hb); (try clear hb2); (try clear hk); (try clear hi)))
        go_meet
        case rel => exact ⟨_, (decide ((l0.length : Int) > 15)), (by first | rfl | (simp; done) | (simp [*]; done)), H', ⟨by first | omega | exact Nat.le_refl _⟩, ⟨by (with_reducible repeat (first | apply Kd.V_alloc | apply Kd.V_drewN | apply Kd.V_drew)); exact Kd.V_mono HO0.out (fun _ hk => ⟨hk.1.1, hk.1.2⟩)⟩, ⟨by (with_reducible repeat (first | apply Kd.V_alloc | apply Kd.V_drewN | apply Kd.V_drew)); exact Kd.V_mono HO1_3.out (fun _ hk => ⟨hk.1.1, hk.1.2⟩)⟩, ⟨by (with_reducible repeat (first | refine blk_drewN ?_ _ | refine blk_drew ?_ | refine blk_alloc ?_ _)); exact BK382.out⟩, ⟨by repeat (first | (with_reducible first | exact HB.out | apply below_alloc | apply pw_below_drewN | apply below_drew1 | refine below_set ?_ GE382.out) | exact HB.out)⟩⟩
  case rest =>
    clear HC3
    try clear c1
    try clear p2
    try clear c4
    try clear c6
    try clear c7
    try clear c9
    try clear c17
    try clear hcz11_0
    try clear hcz11_1
    try clear hcz11_2
    try clear hcz11_3
    try clear hcz17_0
    try clear hcz17_1
    try clear hcz17_2
    try clear hcz17_3
    try clear hfz11_0
    try clear hfz11_1
    try clear hfz11_2
    try clear hfz11_3
    try clear hfz17_0
    try clear hfz17_1
    try clear hfz17_2
    try clear hfz17_3
    obtain ⟨kq, x27_2, rfl, HA, HJ2, HO_0, HO_383003, BK382, HB⟩ := hcut
    cases kq with
    | zero => exact absurd HA.out (by simp [watchmanlaw23_LogBest.j0])
    | succ kj2 =>
      have H := HA.out
      clear HA
      simp only [watchmanlaw23_LogBest.j0] at H
      by_cases c22 : x27_2 = true
      · subst c22
        have H1 : (some true) = some r := by rw [if_pos rfl] at H; exact H
        clear H
        have H := H1
        clear H1
        obtain rfl := Option.some.inj H
        go_wp2
        go_ret
        exact ⟨by first | rfl | (simp [errW_none, errW_some] <;> rfl) | (simp [*, errW_none, errW_some] <;> rfl), by repeat (first | (with_reducible first | exact HB.out | apply below_alloc | apply pw_below_drewN | apply below_drew1 | refine below_set ?_ GE382.out) | exact HB.out)⟩
      · replace c22 := Bool.eq_false_iff.mpr c22
        subst c22
        have H1 : ((log_Best.f kj2 l0).bind fun bt388 => (watchmanlaw23_LogBest.l0 kj2 l0 bt388.2.2.2.2 false 0 a1_0 a1_1 a1_2 l1_3 bt388.1 bt388.2.1 bt388.2.2.1 bt388.2.2.2.1)) = some r := by rw [if_neg (show ¬ (false = true) by decide)] at H; exact H
        clear H
        have H := H1
        clear H1
        replace H := Option.bind_eq_some_iff.mp H
        obtain ⟨⟨t388, t389, t390, t391, t394⟩, A230, H⟩ := H
        replace H : (watchmanlaw23_LogBest.l0 kj2 l0 t394 false 0 a1_0 a1_1 a1_2 l1_3 t388 t389 t390 t391) = some r := H
        have A23 := Aside0.mk A230
        clear A230
        have H' := Aside0.mk H
        clear H
        go_wp2_with (first | ((with_reducible refine gate_callee (f := 21) rfl ?_); refine goesL_ (some 30) rfl rfl Try.func21 (by kernel_rfl) rfl #[.slice A0 l0.length c0] rfl (by (try simp only [List.map_toArray, List.map_cons, List.map_nil]); first | done | rfl | (simp only [List.length_drop, List.length_take]; rfl)) ?_; (with_reducible refine (log_Best.calls kj2 _ _ l0 t388 t389 t390 t391 t394 _ ?side1 ?side2 A23.out).mono ?_); (case side1 => repeat (first | exact (Kd.V_reads' HO_0.out).2.2 | (with_reducible refine Kd.C_alloc ?_ _) | (with_reducible refine Kd.C_drewN ?_ _) | (with_reducible refine Kd.C_drew ?_))); (case side2 => exact (Kd.V_reads' HO_0.out).2.1); rintro e w24 ⟨v392, rfl, ho0, hb⟩; refine ⟨_, rfl, ?_⟩; have n0_ := Aside0.mk (Kd.V_elder' (by (with_reducible repeat (first | apply Kd.V_alloc | apply Kd.V_drewN | apply Kd.V_drew)); exact HO_0.out) (Kd.R_base ho0) hb); have n1_ := Aside0.mk (Kd.V_elder' (by (with_reducible repeat (first | apply Kd.V_alloc | apply Kd.V_drewN | apply Kd.V_drew)); exact HO_383003.out) (Kd.R_base ho0) hb); have n2_ := Aside0.mk (Kd.R_lower (Kd.R_newM (M := fun k_ => (w.heap.size ≤ k_)) ho0 (below_size (by repeat (first | (with_reducible first | exact HB.out | apply below_alloc | apply pw_below_drewN | apply below_drew1 | refine below_set ?_ GE382.out) | exact HB.out))) (fun k_ h_ => h_)) (below_size (by repeat (first | (with_reducible first | exact HB.out | apply below_alloc | apply pw_below_drewN | apply below_drew1 | refine below_set ?_ GE382.out) | exact HB.out)))); have n3_ := Aside0.mk (blk_below (g := gb382) (o := .cells #[.int .i64 a1_0, .int .i64 a1_1, .int .i64 a1_2, .slice A1_3 l1_3.length c1_3] 36 (0, 0)) (by (with_reducible repeat (first | refine blk_drewN ?_ _ | refine blk_drew ?_ | refine blk_alloc ?_ _)); exact BK382.out) hb); have n4_ := Aside0.mk (below_step (by repeat (first | (with_reducible first | exact HB.out | apply below_alloc | apply pw_below_drewN | apply below_drew1 | refine below_set ?_ GE382.out) | exact HB.out)) hb); clear HO_0; clear HO_383003; clear BK382; clear HB; have HO_0 := n0_; have HO_383003 := n1_; have HO393 := n2_; have BK382 := n3_; have HB := n4_; clear n0_ n1_ n2_ n3_ n4_; (try clear hb); (try clear hb2); (try clear hk); (try clear hi); (try clear ho0)) | ((with_reducible refine gate_dst (N := 5) rfl ?_); (try (refine gate_guard (by rfl) ?_; dsimp only)); refine box_event ?hg (N := 5) ?hd (cs := #[.int .i64 0, .int .i64 0, .int .i64 0, .slice none 0 0]) (t := 36) ?hr ?_; (case hd => rfl); (case hg => rfl); (case hr => first | (go_simp; done) | (go_simp; rfl)); intro gb395 hg w25 hbox hb; have n0_ := Aside0.mk (Kd.V_below (Kd.V_elderB (by (with_reducible repeat (first | apply Kd.V_alloc | apply Kd.V_drewN | apply Kd.V_drew)); exact HO_0.out) gb395 (Nat.le_of_eq hg.symm)) hb); have n1_ := Aside0.mk (Kd.V_below (Kd.V_elderB (by (with_reducible repeat (first | apply Kd.V_alloc | apply Kd.V_drewN | apply Kd.V_drew)); exact HO_383003.out) gb395 (Nat.le_of_eq hg.symm)) hb); have n2_ := Aside0.mk (Kd.R_below (by (with_reducible repeat (first | apply Kd.R_alloc | apply Kd.R_drewN | apply Kd.R_drew)); exact HO393.out) hb); have n3_ := Aside0.mk (blk_below (g := gb382) (o := .cells #[.int .i64 a1_0, .int .i64 a1_1, .int .i64 a1_2, .slice A1_3 l1_3.length c1_3] 36 (0, 0)) (by (with_reducible repeat (first | refine blk_drewN ?_ _ | refine blk_drew ?_ | refine blk_alloc ?_ _)); exact BK382.out) hb); have n4_ := Aside0.mk (below_step (by repeat (first | (with_reducible first | exact HB.out | apply below_alloc | apply pw_below_drewN | apply below_drew1 | refine below_set ?_ GE382.out) | exact HB.out)) hb); have n5_ := Aside0.mk (hbox); have n6_ := Aside0.mk ((by rw [hg]; exact (below_size (by repeat (first | (with_reducible first | exact HB.out | apply below_alloc | apply pw_below_drewN | apply below_drew1 | refine below_set ?_ GE382.out) | exact HB.out))) : w.heap.size ≤ gb395)); have n7_ := Aside0.mk ((by rw [hg]; exact (below_size (by repeat (first | (with_reducible first | exact HB.out | apply below_alloc | apply pw_below_drewN | apply below_drew1 | refine below_set ?_ GE382.out) | exact HB.out))) : w.heap.size ≤ gb395)); have n8_ := Aside0.mk ((by rw [hg]; exact Nat.ne_of_lt (blk_lt (g := gb382) (o := .cells #[.int .i64 a1_0, .int .i64 a1_1, .int .i64 a1_2, .slice A1_3 l1_3.length c1_3] 36 (0, 0)) (by (with_reducible repeat (first | refine blk_drewN ?_ _ | refine blk_drew ?_ | refine blk_alloc ?_ _)); exact BK382.out)) : gb382 ≠ gb395)); have n9_ := Aside0.mk ((by rw [hg]; exact Nat.ne_of_gt (blk_lt (g := gb382) (o := .cells #[.int .i64 a1_0, .int .i64 a1_1, .int .i64 a1_2, .slice A1_3 l1_3.length c1_3] 36 (0, 0)) (by (with_reducible repeat (first | refine blk_drewN ?_ _ | refine blk_drew ?_ | refine blk_alloc ?_ _)); exact BK382.out)) : gb395 ≠ gb382)); clear HO_0; clear HO_383003; clear HO393; clear BK382; clear HB; have HO_0 := n0_; have HO_383003 := n1_; have HO393 := n2_; have BK382 := n3_; have HB := n4_; have BK395 := n5_; have GW395 := n6_; have GE395 := n7_; have NB382_395 := n8_; have NB395_382 := n9_; clear n0_ n1_ n2_ n3_ n4_ n5_ n6_ n7_ n8_ n9_; clear hb hbox hg; have hnb26 := NB395_382.out; have hnc26 := NB382_395.out; have hcz27_0 : w25.cell? ⟨gb395, 0, none⟩ = some (.int .i64 0) := (blk_cell BK395.out 0).trans rfl; have hcz27_1 : w25.cell? ⟨gb395, 1, none⟩ = some (.int .i64 0) := (blk_cell BK395.out 1).trans rfl; have hcz27_2 : w25.cell? ⟨gb395, 2, none⟩ = some (.int .i64 0) := (blk_cell BK395.out 2).trans rfl; have hcz27_3 : w25.cell? ⟨gb395, 3, none⟩ = some (.slice none 0 0) := (blk_cell BK395.out 3).trans rfl; have hfz27_0 := blk_frozen BK395.out 0; have hfz27_1 := blk_frozen BK395.out 1; have hfz27_2 := blk_frozen BK395.out 2; have hfz27_3 := blk_frozen BK395.out 3; obtain ⟨Ao28, co28, eo28⟩ := Kd.R_slice HO393.out; subst eo28))
        go_loopg [7, 8] kj2 (fun kq v7 v8 w' => ∃ (x7_2 : Bool) (x8_2 : Int), v7 = .bool x7_2 ∧ v8 = .int .i64 x8_2 ∧ Aside0 (watchmanlaw23_LogBest.l0 kq l0 t394 x7_2 x8_2 a1_0 a1_1 a1_2 l1_3 t388 t389 t390 t391 = some r) ∧ Aside0 (kq ≤ kj2) ∧ Aside0 (Kd.V k36 36 w' w.heap.size (fun k_ => ((P0_ k_ ∨ P1_3_ k_) ∨ w.heap.size ≤ k_) ∧ some k_ ≠ ((.slice Ao28 t391.length co28) : Value).ownBlock ∧ k_ ≠ gb382 ∧ k_ ≠ gb395) (.slice A0 l0.length c0) l0) ∧ Aside0 (Kd.V Kd.string 9 w' w.heap.size (fun k_ => ((P0_ k_ ∨ P1_3_ k_) ∨ w.heap.size ≤ k_) ∧ some k_ ≠ ((.slice Ao28 t391.length co28) : Value).ownBlock ∧ k_ ≠ gb382 ∧ k_ ≠ gb395) (.slice A1_3 l1_3.length c1_3) l1_3) ∧ Aside0 (Kd.R Kd.string 9 w' w.heap.size (fun k_ => (w.heap.size ≤ k_)) (.slice Ao28 t391.length co28) t391) ∧ Aside0 (w'.heap[gb382]? = some (.cells #[.int .i64 a1_0, .int .i64 a1_1, .int .i64 a1_2, (.slice A1_3 l1_3.length c1_3)] 36 (0, 0))) ∧ Aside0 (w'.heap[gb395]? = some (.cells #[.int .i64 t388, .int .i64 t389, .int .i64 t390, (.slice Ao28 t391.length co28)] 36 (0, 0))) ∧ Aside0 (Below w.heap.size w w'))
        case atStart => exact ⟨(false), (0), (by first | rfl | (simp; done) | (simp [*]; done)), (by first | rfl | (simp; done) | (simp [*]; done)), H', ⟨Nat.le_refl _⟩, ⟨by (with_reducible repeat (first | apply Kd.V_alloc | apply Kd.V_drewN | apply Kd.V_drew)); exact Kd.V_mono (Kd.V_far (p := ⟨gb395, 3, none⟩) (Kd.V_far (p := ⟨gb395, 2, none⟩) (Kd.V_far (p := ⟨gb395, 1, none⟩) (Kd.V_far (p := ⟨gb395, 0, none⟩) (Kd.V_mono HO_0.out (fun k_ hk => (⟨hk, hk.2⟩ : _ ∧ k_ ≠ gb395))) (fun _ hk => hk.2) (.int .i64 t388)) (fun _ hk => hk.2) (.int .i64 t389)) (fun _ hk => hk.2) (.int .i64 t390)) (fun _ hk => hk.2) (.slice Ao28 t391.length co28)) (fun _ hk => ⟨hk.1.1.1.1, ⟨hk.1.1.2, ⟨hk.1.1.1.2, hk.1.2⟩⟩⟩)⟩, ⟨by (with_reducible repeat (first | apply Kd.V_alloc | apply Kd.V_drewN | apply Kd.V_drew)); exact Kd.V_mono (Kd.V_far (p := ⟨gb395, 3, none⟩) (Kd.V_far (p := ⟨gb395, 2, none⟩) (Kd.V_far (p := ⟨gb395, 1, none⟩) (Kd.V_far (p := ⟨gb395, 0, none⟩) (Kd.V_mono HO_383003.out (fun k_ hk => (⟨hk, hk.2⟩ : _ ∧ k_ ≠ gb395))) (fun _ hk => hk.2) (.int .i64 t388)) (fun _ hk => hk.2) (.int .i64 t389)) (fun _ hk => hk.2) (.int .i64 t390)) (fun _ hk => hk.2) (.slice Ao28 t391.length co28)) (fun _ hk => ⟨hk.1.1.1.1, ⟨hk.1.1.2, ⟨hk.1.1.1.2, hk.1.2⟩⟩⟩)⟩, ⟨by (with_reducible repeat (first | apply Kd.R_alloc | apply Kd.R_drewN | apply Kd.R_drew)); exact Kd.R_mono (Kd.R_far (p := ⟨gb395, 3, none⟩) (Kd.R_far (p := ⟨gb395, 2, none⟩) (Kd.R_far (p := ⟨gb395, 1, none⟩) (Kd.R_far (p := ⟨gb395, 0, none⟩) (Kd.R_types HO393.out BK395.out (by decide)) (fun _ hk => hk.2) (.int .i64 t388)) (fun _ hk => hk.2) (.int .i64 t389)) (fun _ hk => hk.2) (.int .i64 t390)) (fun _ hk => hk.2) (.slice Ao28 t391.length co28)) (fun _ hk => hk.1.1)⟩, ⟨by (with_reducible repeat (first | refine blk_drewN ?_ _ | refine blk_drew ?_ | refine blk_alloc ?_ _)); refine blk_far ?_ NB382_395.out _; (with_reducible repeat (first | refine blk_drewN ?_ _ | refine blk_drew ?_ | refine blk_alloc ?_ _)); refine blk_far ?_ NB382_395.out _; (with_reducible repeat (first | refine blk_drewN ?_ _ | refine blk_drew ?_ | refine blk_alloc ?_ _)); refine blk_far ?_ NB382_395.out _; (with_reducible repeat (first | refine blk_drewN ?_ _ | refine blk_drew ?_ | refine blk_alloc ?_ _)); refine blk_far ?_ NB382_395.out _; (with_reducible repeat (first | refine blk_drewN ?_ _ | refine blk_drew ?_ | refine blk_alloc ?_ _)); exact BK382.out⟩, ⟨by (with_reducible repeat (first | refine blk_drewN ?_ _ | refine blk_drew ?_ | refine blk_alloc ?_ _)); refine blk_put (cs := #[.int .i64 t388, .int .i64 t389, .int .i64 t390, .slice none 0 0]) ?_ 3 _ rfl; (with_reducible repeat (first | refine blk_drewN ?_ _ | refine blk_drew ?_ | refine blk_alloc ?_ _)); refine blk_put (cs := #[.int .i64 t388, .int .i64 t389, .int .i64 0, .slice none 0 0]) ?_ 2 _ rfl; (with_reducible repeat (first | refine blk_drewN ?_ _ | refine blk_drew ?_ | refine blk_alloc ?_ _)); refine blk_put (cs := #[.int .i64 t388, .int .i64 0, .int .i64 0, .slice none 0 0]) ?_ 1 _ rfl; (with_reducible repeat (first | refine blk_drewN ?_ _ | refine blk_drew ?_ | refine blk_alloc ?_ _)); refine blk_put (cs := #[.int .i64 0, .int .i64 0, .int .i64 0, .slice none 0 0]) ?_ 0 _ rfl; (with_reducible repeat (first | refine blk_drewN ?_ _ | refine blk_drew ?_ | refine blk_alloc ?_ _)); exact BK395.out⟩, ⟨by repeat (first | (with_reducible first | exact HB.out | apply below_alloc | apply pw_below_drewN | apply below_drew1 | refine below_set ?_ GE382.out | refine below_set ?_ GE395.out) | exact HB.out)⟩⟩
        case round =>
          clear H'
          try clear c1
          try clear c2
          try clear p2
          try clear c4
          try clear c6
          try clear c7
          try clear c9
          try clear c17
          try clear c21
          try clear c22
          try clear c26
          try clear hcz11_0
          try clear hcz11_1
          try clear hcz11_2
          try clear hcz11_3
          try clear hcz17_0
          try clear hcz17_1
          try clear hcz17_2
          try clear hcz17_3
          try clear hcz27_0
          try clear hcz27_1
          try clear hcz27_2
          try clear hcz27_3
          try clear hfz11_0
          try clear hfz11_1
          try clear hfz11_2
          try clear hfz11_3
          try clear hfz17_0
          try clear hfz17_1
          try clear hfz17_2
          try clear hfz17_3
          try clear hfz27_0
          try clear hfz27_1
          try clear hfz27_2
          try clear hfz27_3
          try clear p2
          obtain ⟨x7_2, x8_2, rfl, rfl, HA, HK2, HO_0, HO_383003, HO_396003, BK382, BK395, HB⟩ := hrel
          cases gk with
          | zero => exact absurd HA.out (by simp [watchmanlaw23_LogBest.l0])
          | succ k2 =>
            have H := HA.out
            clear HA
            simp only [watchmanlaw23_LogBest.l0] at H
            by_cases c29 : x8_2 < (l0.length : Int)
            · rw [if_pos c29] at H
              have c29b0 : decide (x8_2 < (l0.length : Int)) = true := decide_eq_true c29
              clear c29
              have HC30 := Aside0.mk H
              clear H
              go_upto_region 8 with (fail)
              go_cut [68] (fun v68 wc => ∃ (kq : Nat) (x68_29 : Bool), v68 = .bool x68_29 ∧ Aside0 (watchmanlaw23_LogBest.j2 kq l0 t394 x7_2 x8_2 x68_29 a1_0 a1_1 a1_2 l1_3 t388 t389 t390 t391 = some r) ∧ Aside0 (kq ≤ k2) ∧ Aside0 (Kd.V k36 36 wc w.heap.size (fun k_ => ((P0_ k_ ∨ P1_3_ k_) ∨ w.heap.size ≤ k_) ∧ some k_ ≠ ((.slice Ao28 t391.length co28) : Value).ownBlock ∧ k_ ≠ gb382 ∧ k_ ≠ gb395) (.slice A0 l0.length c0) l0) ∧ Aside0 (Kd.V Kd.string 9 wc w.heap.size (fun k_ => ((P0_ k_ ∨ P1_3_ k_) ∨ w.heap.size ≤ k_) ∧ some k_ ≠ ((.slice Ao28 t391.length co28) : Value).ownBlock ∧ k_ ≠ gb382 ∧ k_ ≠ gb395) (.slice A1_3 l1_3.length c1_3) l1_3) ∧ Aside0 (Kd.R Kd.string 9 wc w.heap.size (fun k_ => (w.heap.size ≤ k_)) (.slice Ao28 t391.length co28) t391) ∧ Aside0 (wc.heap[gb382]? = some (.cells #[.int .i64 a1_0, .int .i64 a1_1, .int .i64 a1_2, (.slice A1_3 l1_3.length c1_3)] 36 (0, 0))) ∧ Aside0 (wc.heap[gb395]? = some (.cells #[.int .i64 t388, .int .i64 t389, .int .i64 t390, (.slice Ao28 t391.length co28)] 36 (0, 0))) ∧ Aside0 (Below w.heap.size w wc))
              case first =>
                have H := HC30.out
                clear HC30
                by_cases c31 : 0 ≤ x8_2
                · rw [if_pos c31] at H
                  have c31b0 : decide (0 ≤ x8_2) = true := decide_eq_true c31
                  clear c31
                  (first | rw [c31b0] | (simp only [i64_w, i32_w]; rw [c31b0]) | skip)
                  by_cases c32 : ((rd_T36 l0 x8_2).f1) > t389
                  · rw [if_pos c32] at H
                    have c32b0 : decide (t389 < ((rd_T36 l0 x8_2).f1)) = true := decide_eq_true c32
                    clear c32
                    have H' := Aside0.mk H
                    clear H
                    try go_wp2
                    have n0_ := Aside0.mk (Kd.V_drew HO_0.out)
                    have n1_ := Aside0.mk (Kd.V_drew HO_383003.out)
                    have n2_ := Aside0.mk (Kd.R_drew HO_396003.out)
                    have n3_ := Aside0.mk (blk_drew BK382.out)
                    have n4_ := Aside0.mk (blk_drew BK395.out)
                    have n5_ := Aside0.mk (below_drew1 HB.out)
                    clear HO_0
                    clear HO_383003
                    clear HO_396003
                    clear BK382
                    clear BK395
                    clear HB
                    have HO_0 := n0_
                    have HO_383003 := n1_
                    have HO_396003 := n2_
                    have BK382 := n3_
                    have BK395 := n4_
                    have HB := n5_
                    clear n0_ n1_ n2_ n3_ n4_ n5_
                    have p396 : 0 ≤ (x8_2 : Int) := of_decide_eq_true (by first | (with_reducible assumption) | assumption)
                    have q396 : x8_2 < (l0.length : Int) := of_decide_eq_true (by first | (with_reducible assumption) | assumption)
                    obtain ⟨ad396, A396_3, c396_3, e396, hx396_0, hx396_1, hx396_2, hx396_3, hl396_3, hi396_3⟩ := at_T36 (Kd.V_reads' HO_0.out).2.2 x8_2 p396 q396
                    cases e396
                    obtain ⟨ce396, hce396, hMe396, hcc396⟩ := Kd.V_get HO_0.out z36 x8_2 p396 (by first | exact q396 | exact of_decide_eq_true (by first | (with_reducible assumption) | assumption) | (have e_ := (Kd.V_reads' HO_0.out).1; omega))
                    obtain ⟨ua396_3, uc396_3, rfl, ul396_3, ge396_3⟩ := k36_openF hMe396
                    have hv396_3 := hcc396 3 _ rfl
                    rw [add_field _ _ 3 (by omega)] at hv396_3
                    replace hv396_3 := Option.some.inj (hv396_3.symm.trans hx396_3)
                    injection hv396_3 with hva_ hvn_ hvc_
                    rw [hva_] at ge396_3
                    rw [hvc_] at ul396_3
                    have HL396_3 := Aside0.mk (show Kd.V Kd.string 9 _ w.heap.size _ _ ((rd_T36 l0 x8_2).f3) from Kd.V_mk ul396_3 ge396_3)
                    clear hva_ hvn_ hvc_ ge396_3 ul396_3
                    clear hcc396 hce396
                    have HR396_3 := Aside0.mk hi396_3
                    have HC396_3 := Aside0.mk hl396_3
                    clear hi396_3 hl396_3
                    replace p396 := eq_true p396
                    replace q396 := eq_true q396
                    refine start_ (n := 30) (S := fun w' => w'.cell? ⟨gb395, 0, none⟩ = some (.int .i64 t388) ∧ w'.cell? ⟨gb395, 1, none⟩ = some (.int .i64 t389) ∧ w'.cell? ⟨gb395, 2, none⟩ = some (.int .i64 t390) ∧ w'.cell? ⟨gb395, 3, none⟩ = some (.slice Ao28 t391.length co28) ∧ w'.cell? (ad396.add ((x8_2).toNat * 4)) = some (.int .i64 ((rd_T36 l0 x8_2).f0)) ∧ w'.cell? ⟨(ad396.add ((x8_2).toNat * 4)).block, (ad396.add ((x8_2).toNat * 4)).off + 1, none⟩ = some (.int .i64 ((rd_T36 l0 x8_2).f1)) ∧ w'.cell? ⟨(ad396.add ((x8_2).toNat * 4)).block, (ad396.add ((x8_2).toNat * 4)).off + 2, none⟩ = some (.int .i64 ((rd_T36 l0 x8_2).f2)) ∧ w'.cell? ⟨(ad396.add ((x8_2).toNat * 4)).block, (ad396.add ((x8_2).toNat * 4)).off + 3, none⟩ = some (.slice A396_3 ((rd_T36 l0 x8_2).f3).length c396_3)) (ds := []) #[false, false, false, false, false, false, false, false, false, false, false, false, false, false, false, false, false, false, false, false, false, false, false, false, false, false, false, false, false, false] (by kernel_rfl) rfl rfl ⟨(blk_cell BK395.out 0).trans rfl, (blk_cell BK395.out 1).trans rfl, (blk_cell BK395.out 2).trans rfl, (blk_cell BK395.out 3).trans rfl, hx396_0, hx396_1, hx396_2, hx396_3⟩ (fun hHeld => ?_); refine with_tabW watchmanlaw23_LogBest.tab8 watchmanlaw23_LogBest.bits8 (fun HT_ HW_ => ?_)
                    generalize wr.drew = w33 at HO_0 HO_383003 HO_396003 BK382 BK395 HB HL396_3 HR396_3 hx396_0 hx396_1 hx396_2 hx396_3 hHeld ⊢
                    refine pure_ (i := 0) (N := some 39) (v := ?_) (a' := ?_) (dn_ 1 30) rfl rfl (any_of HT_.out (by kernel_rfl)) (fun _ _ _ h => h) (Or.inl ⟨by rfl, ?_⟩) ?_ ?_
                    rotate_left
                    · intro w'
                      go_simp
                      with_reducible rfl
                    rotate_left
                    · simp only [Act.put, List.setIfInBounds_toArray, List.set_cons_zero, List.set_cons_succ, i64_w, i32_w]
                      rfl
                    refine pure_ (i := 1) (N := some 40) (v := ?_) (a' := ?_) (dn_ 2 30) rfl rfl (any_of HT_.out (by kernel_rfl)) (fun _ _ _ h => h) (Or.inl ⟨by rfl, ?_⟩) ?_ ?_
                    rotate_left
                    · intro w'
                      go_simp
                      with_reducible rfl
                    rotate_left
                    · simp only [Act.put, List.setIfInBounds_toArray, List.set_cons_zero, List.set_cons_succ, i64_w, i32_w]
                      rfl
                    refine pure_ (i := 2) (N := some 41) (v := ?_) (a' := ?_) (dn_ 3 30) rfl rfl (any_of HT_.out (by kernel_rfl)) (fun _ _ _ h => h) (Or.inl ⟨by rfl, ?_⟩) ?_ ?_
                    rotate_left
                    · intro w'
                      go_simp
                      with_reducible rfl
                    rotate_left
                    · simp only [Act.put, List.setIfInBounds_toArray, List.set_cons_zero, List.set_cons_succ, i64_w, i32_w]
                      rfl
                    refine pure_ (i := 3) (N := some 42) (v := ?_) (a' := ?_) (dn_ 4 30) rfl rfl (any_of HT_.out (by kernel_rfl)) (fun _ _ _ h => h) (Or.inl ⟨by rfl, ?_⟩) ?_ ?_
                    rotate_left
                    · intro w'
                      go_simp
                      with_reducible rfl
                    rotate_left
                    · simp only [Act.put, List.setIfInBounds_toArray, List.set_cons_zero, List.set_cons_succ, i64_w, i32_w]
                      rfl
                    refine pure_ (i := 5) (N := some 44) (v := ?_) (a' := ?_) #[true, true, true, true, false, true, false, false, false, false, false, false, false, false, false, false, false, false, false, false, false, false, false, false, false, false, false, false, false, false] rfl rfl (any_of HT_.out (by kernel_rfl)) (fun _ _ _ h => h) (Or.inl ⟨by rfl, ?_⟩) ?_ ?_
                    rotate_left
                    · intro w'
                      go_simp
                      with_reducible rfl
                    rotate_left
                    · simp only [Act.put, List.setIfInBounds_toArray, List.set_cons_zero, List.set_cons_succ, i64_w, i32_w]
                      rfl
                    refine take_ (i := 4) (N := some 43) (v := ?_) (a' := ?_) (dn_ 6 30) rfl rfl (take_ofW HT_.out HW_.out (by kernel_rfl)) (fun _ _ _ h => h) (Or.inl ⟨by rfl, ?_⟩) hHeld ?_ ?_
                    rotate_left
                    · rintro w' ⟨s0, s1, s2, s3, s4, s5, s6, s7⟩
                      go_simp
                      with_reducible rfl
                    rotate_left
                    · simp only [Act.put, List.setIfInBounds_toArray, List.set_cons_zero, List.set_cons_succ, i64_w, i32_w]
                      rfl
                    refine take_ (i := 6) (N := some 45) (v := ?_) (a' := ?_) (dn_ 7 30) rfl rfl (take_ofW HT_.out HW_.out (by kernel_rfl)) (fun _ _ _ h => h) (Or.inl ⟨by rfl, ?_⟩) hHeld ?_ ?_
                    rotate_left
                    · rintro w' ⟨s0, s1, s2, s3, s4, s5, s6, s7⟩
                      go_simp
                      with_reducible rfl
                    rotate_left
                    · simp only [Act.put, List.setIfInBounds_toArray, List.set_cons_zero, List.set_cons_succ, i64_w, i32_w]
                      rfl
                    refine pure_ (i := 7) (N := some 46) (v := ?_) (a' := ?_) (dn_ 8 30) rfl rfl (any_of HT_.out (by kernel_rfl)) (fun _ _ _ h => h) (Or.inl ⟨by rfl, ?_⟩) ?_ ?_
                    rotate_left
                    · intro w'
                      go_simp
                      with_reducible rfl
                    rotate_left
                    · simp only [Act.put, List.setIfInBounds_toArray, List.set_cons_zero, List.set_cons_succ, i64_w, i32_w]
                      rfl
                    refine pure_ (i := 8) (N := some 47) (v := ?_) (a' := ?_) (dn_ 9 30) rfl rfl (any_of HT_.out (by kernel_rfl)) (fun _ _ _ h => h) (Or.inl ⟨by rfl, ?_⟩) ?_ ?_
                    rotate_left
                    · intro w'
                      go_simp
                      with_reducible rfl
                    rotate_left
                    · simp only [Act.put, List.setIfInBounds_toArray, List.set_cons_zero, List.set_cons_succ, i64_w, i32_w]
                      rfl
                    refine pure_ (i := 9) (N := some 48) (v := undef) (a' := ?_) (dn_ 10 30) rfl rfl (any_of HT_.out (by kernel_rfl)) (fun _ _ _ h => h) (Or.inr ⟨by rfl, rfl⟩) ?_ ?_
                    rotate_left
                    · simp only [Act.put, List.setIfInBounds_toArray, List.set_cons_zero, List.set_cons_succ, i64_w, i32_w]
                      rfl
                    refine pure_ (i := 10) (N := some 49) (v := undef) (a' := ?_) (dn_ 11 30) rfl rfl (any_of HT_.out (by kernel_rfl)) (fun _ _ _ h => h) (Or.inr ⟨by rfl, rfl⟩) ?_ ?_
                    rotate_left
                    · simp only [Act.put, List.setIfInBounds_toArray, List.set_cons_zero, List.set_cons_succ, i64_w, i32_w]
                      rfl
                    refine pure_ (i := 11) (N := some 50) (v := undef) (a' := ?_) (dn_ 12 30) rfl rfl (any_of HT_.out (by kernel_rfl)) (fun _ _ _ h => h) (Or.inr ⟨by rfl, rfl⟩) ?_ ?_
                    rotate_left
                    · simp only [Act.put, List.setIfInBounds_toArray, List.set_cons_zero, List.set_cons_succ, i64_w, i32_w]
                      rfl
                    refine pure_ (i := 12) (N := some 51) (v := undef) (a' := ?_) (dn_ 13 30) rfl rfl (any_of HT_.out (by kernel_rfl)) (fun _ _ _ h => h) (Or.inr ⟨by rfl, rfl⟩) ?_ ?_
                    rotate_left
                    · simp only [Act.put, List.setIfInBounds_toArray, List.set_cons_zero, List.set_cons_succ, i64_w, i32_w]
                      rfl
                    refine pure_ (i := 13) (N := some 52) (v := undef) (a' := ?_) (dn_ 14 30) rfl rfl (any_of HT_.out (by kernel_rfl)) (fun _ _ _ h => h) (Or.inr ⟨by rfl, rfl⟩) ?_ ?_
                    rotate_left
                    · simp only [Act.put, List.setIfInBounds_toArray, List.set_cons_zero, List.set_cons_succ, i64_w, i32_w]
                      rfl
                    refine pure_ (i := 14) (N := some 53) (v := undef) (a' := ?_) (dn_ 15 30) rfl rfl (any_of HT_.out (by kernel_rfl)) (fun _ _ _ h => h) (Or.inr ⟨by rfl, rfl⟩) ?_ ?_
                    rotate_left
                    · simp only [Act.put, List.setIfInBounds_toArray, List.set_cons_zero, List.set_cons_succ, i64_w, i32_w]
                      rfl
                    refine pure_ (i := 15) (N := some 54) (v := undef) (a' := ?_) (dn_ 16 30) rfl rfl (any_of HT_.out (by kernel_rfl)) (fun _ _ _ h => h) (Or.inr ⟨by rfl, rfl⟩) ?_ ?_
                    rotate_left
                    · simp only [Act.put, List.setIfInBounds_toArray, List.set_cons_zero, List.set_cons_succ, i64_w, i32_w]
                      rfl
                    refine pure_ (i := 16) (N := some 55) (v := undef) (a' := ?_) (dn_ 17 30) rfl rfl (any_of HT_.out (by kernel_rfl)) (fun _ _ _ h => h) (Or.inr ⟨by rfl, rfl⟩) ?_ ?_
                    rotate_left
                    · simp only [Act.put, List.setIfInBounds_toArray, List.set_cons_zero, List.set_cons_succ, i64_w, i32_w]
                      rfl
                    refine pure_ (i := 17) (N := some 56) (v := undef) (a' := ?_) (dn_ 18 30) rfl rfl (any_of HT_.out (by kernel_rfl)) (fun _ _ _ h => h) (Or.inr ⟨by rfl, rfl⟩) ?_ ?_
                    rotate_left
                    · simp only [Act.put, List.setIfInBounds_toArray, List.set_cons_zero, List.set_cons_succ, i64_w, i32_w]
                      rfl
                    refine pure_ (i := 18) (N := some 57) (v := undef) (a' := ?_) (dn_ 19 30) rfl rfl (any_of HT_.out (by kernel_rfl)) (fun _ _ _ h => h) (Or.inr ⟨by rfl, rfl⟩) ?_ ?_
                    rotate_left
                    · simp only [Act.put, List.setIfInBounds_toArray, List.set_cons_zero, List.set_cons_succ, i64_w, i32_w]
                      rfl
                    refine pure_ (i := 19) (N := some 58) (v := undef) (a' := ?_) (dn_ 20 30) rfl rfl (any_of HT_.out (by kernel_rfl)) (fun _ _ _ h => h) (Or.inr ⟨by rfl, rfl⟩) ?_ ?_
                    rotate_left
                    · simp only [Act.put, List.setIfInBounds_toArray, List.set_cons_zero, List.set_cons_succ, i64_w, i32_w]
                      rfl
                    refine pure_ (i := 20) (N := some 59) (v := undef) (a' := ?_) (dn_ 21 30) rfl rfl (any_of HT_.out (by kernel_rfl)) (fun _ _ _ h => h) (Or.inr ⟨by rfl, rfl⟩) ?_ ?_
                    rotate_left
                    · simp only [Act.put, List.setIfInBounds_toArray, List.set_cons_zero, List.set_cons_succ, i64_w, i32_w]
                      rfl
                    refine pure_ (i := 21) (N := some 60) (v := undef) (a' := ?_) (dn_ 22 30) rfl rfl (any_of HT_.out (by kernel_rfl)) (fun _ _ _ h => h) (Or.inr ⟨by rfl, rfl⟩) ?_ ?_
                    rotate_left
                    · simp only [Act.put, List.setIfInBounds_toArray, List.set_cons_zero, List.set_cons_succ, i64_w, i32_w]
                      rfl
                    refine pure_ (i := 22) (N := some 61) (v := undef) (a' := ?_) (dn_ 23 30) rfl rfl (any_of HT_.out (by kernel_rfl)) (fun _ _ _ h => h) (Or.inr ⟨by rfl, rfl⟩) ?_ ?_
                    rotate_left
                    · simp only [Act.put, List.setIfInBounds_toArray, List.set_cons_zero, List.set_cons_succ, i64_w, i32_w]
                      rfl
                    refine pure_ (i := 23) (N := some 62) (v := undef) (a' := ?_) (dn_ 24 30) rfl rfl (any_of HT_.out (by kernel_rfl)) (fun _ _ _ h => h) (Or.inr ⟨by rfl, rfl⟩) ?_ ?_
                    rotate_left
                    · simp only [Act.put, List.setIfInBounds_toArray, List.set_cons_zero, List.set_cons_succ, i64_w, i32_w]
                      rfl
                    refine pure_ (i := 24) (N := some 63) (v := undef) (a' := ?_) (dn_ 25 30) rfl rfl (any_of HT_.out (by kernel_rfl)) (fun _ _ _ h => h) (Or.inr ⟨by rfl, rfl⟩) ?_ ?_
                    rotate_left
                    · simp only [Act.put, List.setIfInBounds_toArray, List.set_cons_zero, List.set_cons_succ, i64_w, i32_w]
                      rfl
                    refine pure_ (i := 25) (N := some 64) (v := undef) (a' := ?_) (dn_ 26 30) rfl rfl (any_of HT_.out (by kernel_rfl)) (fun _ _ _ h => h) (Or.inr ⟨by rfl, rfl⟩) ?_ ?_
                    rotate_left
                    · simp only [Act.put, List.setIfInBounds_toArray, List.set_cons_zero, List.set_cons_succ, i64_w, i32_w]
                      rfl
                    refine pure_ (i := 26) (N := some 65) (v := undef) (a' := ?_) (dn_ 27 30) rfl rfl (any_of HT_.out (by kernel_rfl)) (fun _ _ _ h => h) (Or.inr ⟨by rfl, rfl⟩) ?_ ?_
                    rotate_left
                    · simp only [Act.put, List.setIfInBounds_toArray, List.set_cons_zero, List.set_cons_succ, i64_w, i32_w]
                      rfl
                    refine pure_ (i := 27) (N := some 66) (v := undef) (a' := ?_) (dn_ 28 30) rfl rfl (any_of HT_.out (by kernel_rfl)) (fun _ _ _ h => h) (Or.inr ⟨by rfl, rfl⟩) ?_ ?_
                    rotate_left
                    · simp only [Act.put, List.setIfInBounds_toArray, List.set_cons_zero, List.set_cons_succ, i64_w, i32_w]
                      rfl
                    refine pure_ (i := 28) (N := some 67) (v := undef) (a' := ?_) (dn_ 29 30) rfl rfl (any_of HT_.out (by kernel_rfl)) (fun _ _ _ h => h) (Or.inr ⟨by rfl, rfl⟩) ?_ ?_
                    rotate_left
                    · simp only [Act.put, List.setIfInBounds_toArray, List.set_cons_zero, List.set_cons_succ, i64_w, i32_w]
                      rfl
                    refine pure_ (i := 29) (N := some 68) (v := ?_) (a' := ?_) #[true, true, true, true, true, true, true, true, true, true, true, true, true, true, true, true, true, true, true, true, true, true, true, true, true, true, true, true, true, true] rfl rfl (any_of HT_.out (by kernel_rfl)) (fun _ _ _ h => h) (Or.inl ⟨by rfl, ?_⟩) ?_ ?_
                    rotate_left
                    · intro w'
                      go_simp
                      with_reducible rfl
                    rotate_left
                    · simp only [Act.put, List.setIfInBounds_toArray, List.set_cons_zero, List.set_cons_succ, i64_w, i32_w]
                      rfl
                    refine done_ (done_of HT_.out (by kernel_rfl)) ?_
                    try go_wp2
                    go_meet
                    case rel => exact ⟨_, (true), (by first | rfl | (simp; done) | (simp [*]; done)), H', ⟨by have := HJ2.out; have := HK2.out; first | omega | exact Nat.le_refl _⟩, ⟨by (with_reducible repeat (first | apply Kd.V_alloc | apply Kd.V_drewN | apply Kd.V_drew)); exact HO_0.out⟩, ⟨by (with_reducible repeat (first | apply Kd.V_alloc | apply Kd.V_drewN | apply Kd.V_drew)); exact HO_383003.out⟩, ⟨by (with_reducible repeat (first | apply Kd.R_alloc | apply Kd.R_drewN | apply Kd.R_drew)); exact HO_396003.out⟩, ⟨by (with_reducible repeat (first | refine blk_drewN ?_ _ | refine blk_drew ?_ | refine blk_alloc ?_ _)); exact BK382.out⟩, ⟨by (with_reducible repeat (first | refine blk_drewN ?_ _ | refine blk_drew ?_ | refine blk_alloc ?_ _)); exact BK395.out⟩, ⟨by repeat (first | (with_reducible first | exact HB.out | apply below_alloc | apply pw_below_drewN | apply below_drew1 | refine below_set ?_ GE382.out | refine below_set ?_ GE395.out) | exact HB.out)⟩⟩
                  · rw [if_neg c32] at H
                    have c32b0 : decide (t389 < ((rd_T36 l0 x8_2).f1)) = false := decide_eq_false c32
                    clear c32
                    by_cases c34 : ((rd_T36 l0 x8_2).f1) = t389
                    · rw [if_pos c34] at H
                      have c34b0 : (((rd_T36 l0 x8_2).f1) == t389) = true := beq_iff_eq.mpr c34
                      have c34b1 : (((rd_T36 l0 x8_2).f1) != t389) = false := bne_eq_false_iff_eq.mpr c34
                      clear c34
                      have H' := Aside0.mk H
                      clear H
                      try go_wp2
                      have n0_ := Aside0.mk (Kd.V_drew HO_0.out)
                      have n1_ := Aside0.mk (Kd.V_drew HO_383003.out)
                      have n2_ := Aside0.mk (Kd.R_drew HO_396003.out)
                      have n3_ := Aside0.mk (blk_drew BK382.out)
                      have n4_ := Aside0.mk (blk_drew BK395.out)
                      have n5_ := Aside0.mk (below_drew1 HB.out)
                      clear HO_0
                      clear HO_383003
                      clear HO_396003
                      clear BK382
                      clear BK395
                      clear HB
                      have HO_0 := n0_
                      have HO_383003 := n1_
                      have HO_396003 := n2_
                      have BK382 := n3_
                      have BK395 := n4_
                      have HB := n5_
                      clear n0_ n1_ n2_ n3_ n4_ n5_
                      have p396 : 0 ≤ (x8_2 : Int) := of_decide_eq_true (by first | (with_reducible assumption) | assumption)
                      have q396 : x8_2 < (l0.length : Int) := of_decide_eq_true (by first | (with_reducible assumption) | assumption)
                      obtain ⟨ad396, A396_3, c396_3, e396, hx396_0, hx396_1, hx396_2, hx396_3, hl396_3, hi396_3⟩ := at_T36 (Kd.V_reads' HO_0.out).2.2 x8_2 p396 q396
                      cases e396
                      obtain ⟨ce396, hce396, hMe396, hcc396⟩ := Kd.V_get HO_0.out z36 x8_2 p396 (by first | exact q396 | exact of_decide_eq_true (by first | (with_reducible assumption) | assumption) | (have e_ := (Kd.V_reads' HO_0.out).1; omega))
                      obtain ⟨ua396_3, uc396_3, rfl, ul396_3, ge396_3⟩ := k36_openF hMe396
                      have hv396_3 := hcc396 3 _ rfl
                      rw [add_field _ _ 3 (by omega)] at hv396_3
                      replace hv396_3 := Option.some.inj (hv396_3.symm.trans hx396_3)
                      injection hv396_3 with hva_ hvn_ hvc_
                      rw [hva_] at ge396_3
                      rw [hvc_] at ul396_3
                      have HL396_3 := Aside0.mk (show Kd.V Kd.string 9 _ w.heap.size _ _ ((rd_T36 l0 x8_2).f3) from Kd.V_mk ul396_3 ge396_3)
                      clear hva_ hvn_ hvc_ ge396_3 ul396_3
                      clear hcc396 hce396
                      have HR396_3 := Aside0.mk hi396_3
                      have HC396_3 := Aside0.mk hl396_3
                      clear hi396_3 hl396_3
                      replace p396 := eq_true p396
                      replace q396 := eq_true q396
                      have p397 : 0 ≤ (x8_2 : Int) := of_decide_eq_true (by first | (with_reducible assumption) | assumption)
                      have q397 : x8_2 < (l0.length : Int) := of_decide_eq_true (by first | (with_reducible assumption) | assumption)
                      obtain ⟨ad397, A397_3, c397_3, e397, hx397_0, hx397_1, hx397_2, hx397_3, hl397_3, hi397_3⟩ := at_T36 (Kd.V_reads' HO_0.out).2.2 x8_2 p397 q397
                      obtain rfl : ad396 = ad397 := (by injection e397)
                      obtain ⟨ce397, hce397, hMe397, hcc397⟩ := Kd.V_get HO_0.out z36 x8_2 p397 (by first | exact q397 | exact of_decide_eq_true (by first | (with_reducible assumption) | assumption) | (have e_ := (Kd.V_reads' HO_0.out).1; omega))
                      obtain ⟨ua397_3, uc397_3, rfl, ul397_3, ge397_3⟩ := k36_openF hMe397
                      have hv397_3 := hcc397 3 _ rfl
                      rw [add_field _ _ 3 (by omega)] at hv397_3
                      replace hv397_3 := Option.some.inj (hv397_3.symm.trans hx397_3)
                      injection hv397_3 with hva_ hvn_ hvc_
                      rw [hva_] at ge397_3
                      rw [hvc_] at ul397_3
                      have HL397_3 := Aside0.mk (show Kd.V Kd.string 9 _ w.heap.size _ _ ((rd_T36 l0 x8_2).f3) from Kd.V_mk ul397_3 ge397_3)
                      clear hva_ hvn_ hvc_ ge397_3 ul397_3
                      clear hcc397 hce397
                      have HR397_3 := Aside0.mk hi397_3
                      have HC397_3 := Aside0.mk hl397_3
                      clear hi397_3 hl397_3
                      replace p397 := eq_true p397
                      replace q397 := eq_true q397
                      have ea_ := Option.some.inj (hx396_3.symm.trans hx397_3)
                      injection ea_ with ea_ en_ ec_
                      subst ea_
                      subst ec_
                      clear en_
                      have p398 : 0 ≤ (x8_2 : Int) := of_decide_eq_true (by first | (with_reducible assumption) | assumption)
                      have q398 : x8_2 < (l0.length : Int) := of_decide_eq_true (by first | (with_reducible assumption) | assumption)
                      obtain ⟨ad398, A398_3, c398_3, e398, hx398_0, hx398_1, hx398_2, hx398_3, hl398_3, hi398_3⟩ := at_T36 (Kd.V_reads' HO_0.out).2.2 x8_2 p398 q398
                      obtain rfl : ad396 = ad398 := (by injection e398)
                      obtain ⟨ce398, hce398, hMe398, hcc398⟩ := Kd.V_get HO_0.out z36 x8_2 p398 (by first | exact q398 | exact of_decide_eq_true (by first | (with_reducible assumption) | assumption) | (have e_ := (Kd.V_reads' HO_0.out).1; omega))
                      obtain ⟨ua398_3, uc398_3, rfl, ul398_3, ge398_3⟩ := k36_openF hMe398
                      have hv398_3 := hcc398 3 _ rfl
                      rw [add_field _ _ 3 (by omega)] at hv398_3
                      replace hv398_3 := Option.some.inj (hv398_3.symm.trans hx398_3)
                      injection hv398_3 with hva_ hvn_ hvc_
                      rw [hva_] at ge398_3
                      rw [hvc_] at ul398_3
                      have HL398_3 := Aside0.mk (show Kd.V Kd.string 9 _ w.heap.size _ _ ((rd_T36 l0 x8_2).f3) from Kd.V_mk ul398_3 ge398_3)
                      clear hva_ hvn_ hvc_ ge398_3 ul398_3
                      clear hcc398 hce398
                      have HR398_3 := Aside0.mk hi398_3
                      have HC398_3 := Aside0.mk hl398_3
                      clear hi398_3 hl398_3
                      replace p398 := eq_true p398
                      replace q398 := eq_true q398
                      have ea_ := Option.some.inj (hx396_3.symm.trans hx398_3)
                      injection ea_ with ea_ en_ ec_
                      subst ea_
                      subst ec_
                      clear en_
                      refine start_ (n := 30) (S := fun w' => w'.cell? ⟨gb395, 0, none⟩ = some (.int .i64 t388) ∧ w'.cell? ⟨gb395, 1, none⟩ = some (.int .i64 t389) ∧ w'.cell? ⟨gb395, 2, none⟩ = some (.int .i64 t390) ∧ w'.cell? ⟨gb395, 3, none⟩ = some (.slice Ao28 t391.length co28) ∧ w'.cell? (ad396.add ((x8_2).toNat * 4)) = some (.int .i64 ((rd_T36 l0 x8_2).f0)) ∧ w'.cell? ⟨(ad396.add ((x8_2).toNat * 4)).block, (ad396.add ((x8_2).toNat * 4)).off + 1, none⟩ = some (.int .i64 ((rd_T36 l0 x8_2).f1)) ∧ w'.cell? ⟨(ad396.add ((x8_2).toNat * 4)).block, (ad396.add ((x8_2).toNat * 4)).off + 2, none⟩ = some (.int .i64 ((rd_T36 l0 x8_2).f2)) ∧ w'.cell? ⟨(ad396.add ((x8_2).toNat * 4)).block, (ad396.add ((x8_2).toNat * 4)).off + 3, none⟩ = some (.slice A396_3 ((rd_T36 l0 x8_2).f3).length c396_3) ∧ w'.cell? (ad396.add ((x8_2).toNat * 4)) = some (.int .i64 ((rd_T36 l0 x8_2).f0)) ∧ w'.cell? ⟨(ad396.add ((x8_2).toNat * 4)).block, (ad396.add ((x8_2).toNat * 4)).off + 1, none⟩ = some (.int .i64 ((rd_T36 l0 x8_2).f1)) ∧ w'.cell? ⟨(ad396.add ((x8_2).toNat * 4)).block, (ad396.add ((x8_2).toNat * 4)).off + 2, none⟩ = some (.int .i64 ((rd_T36 l0 x8_2).f2)) ∧ w'.cell? ⟨(ad396.add ((x8_2).toNat * 4)).block, (ad396.add ((x8_2).toNat * 4)).off + 3, none⟩ = some (.slice A396_3 ((rd_T36 l0 x8_2).f3).length c396_3) ∧ w'.cell? (ad396.add ((x8_2).toNat * 4)) = some (.int .i64 ((rd_T36 l0 x8_2).f0)) ∧ w'.cell? ⟨(ad396.add ((x8_2).toNat * 4)).block, (ad396.add ((x8_2).toNat * 4)).off + 1, none⟩ = some (.int .i64 ((rd_T36 l0 x8_2).f1)) ∧ w'.cell? ⟨(ad396.add ((x8_2).toNat * 4)).block, (ad396.add ((x8_2).toNat * 4)).off + 2, none⟩ = some (.int .i64 ((rd_T36 l0 x8_2).f2)) ∧ w'.cell? ⟨(ad396.add ((x8_2).toNat * 4)).block, (ad396.add ((x8_2).toNat * 4)).off + 3, none⟩ = some (.slice A396_3 ((rd_T36 l0 x8_2).f3).length c396_3)) (ds := []) #[false, false, false, false, false, false, false, false, false, false, false, false, false, false, false, false, false, false, false, false, false, false, false, false, false, false, false, false, false, false] (by kernel_rfl) rfl rfl ⟨(blk_cell BK395.out 0).trans rfl, (blk_cell BK395.out 1).trans rfl, (blk_cell BK395.out 2).trans rfl, (blk_cell BK395.out 3).trans rfl, hx396_0, hx396_1, hx396_2, hx396_3, hx397_0, hx397_1, hx397_2, hx397_3, hx398_0, hx398_1, hx398_2, hx398_3⟩ (fun hHeld => ?_); refine with_tabW watchmanlaw23_LogBest.tab8 watchmanlaw23_LogBest.bits8 (fun HT_ HW_ => ?_)
                      generalize wr.drew = w35 at HO_0 HO_383003 HO_396003 BK382 BK395 HB HL396_3 HL397_3 HL398_3 HR396_3 HR397_3 HR398_3 hx396_0 hx396_1 hx396_2 hx396_3 hx397_0 hx397_1 hx397_2 hx397_3 hx398_0 hx398_1 hx398_2 hx398_3 hHeld ⊢
                      refine pure_ (i := 0) (N := some 39) (v := ?_) (a' := ?_) (dn_ 1 30) rfl rfl (any_of HT_.out (by kernel_rfl)) (fun _ _ _ h => h) (Or.inl ⟨by rfl, ?_⟩) ?_ ?_
                      rotate_left
                      · intro w'
                        go_simp
                        with_reducible rfl
                      rotate_left
                      · simp only [Act.put, List.setIfInBounds_toArray, List.set_cons_zero, List.set_cons_succ, i64_w, i32_w]
                        rfl
                      refine pure_ (i := 1) (N := some 40) (v := ?_) (a' := ?_) (dn_ 2 30) rfl rfl (any_of HT_.out (by kernel_rfl)) (fun _ _ _ h => h) (Or.inl ⟨by rfl, ?_⟩) ?_ ?_
                      rotate_left
                      · intro w'
                        go_simp
                        with_reducible rfl
                      rotate_left
                      · simp only [Act.put, List.setIfInBounds_toArray, List.set_cons_zero, List.set_cons_succ, i64_w, i32_w]
                        rfl
                      refine pure_ (i := 2) (N := some 41) (v := ?_) (a' := ?_) (dn_ 3 30) rfl rfl (any_of HT_.out (by kernel_rfl)) (fun _ _ _ h => h) (Or.inl ⟨by rfl, ?_⟩) ?_ ?_
                      rotate_left
                      · intro w'
                        go_simp
                        with_reducible rfl
                      rotate_left
                      · simp only [Act.put, List.setIfInBounds_toArray, List.set_cons_zero, List.set_cons_succ, i64_w, i32_w]
                        rfl
                      refine pure_ (i := 3) (N := some 42) (v := ?_) (a' := ?_) (dn_ 4 30) rfl rfl (any_of HT_.out (by kernel_rfl)) (fun _ _ _ h => h) (Or.inl ⟨by rfl, ?_⟩) ?_ ?_
                      rotate_left
                      · intro w'
                        go_simp
                        with_reducible rfl
                      rotate_left
                      · simp only [Act.put, List.setIfInBounds_toArray, List.set_cons_zero, List.set_cons_succ, i64_w, i32_w]
                        rfl
                      refine pure_ (i := 5) (N := some 44) (v := ?_) (a' := ?_) #[true, true, true, true, false, true, false, false, false, false, false, false, false, false, false, false, false, false, false, false, false, false, false, false, false, false, false, false, false, false] rfl rfl (any_of HT_.out (by kernel_rfl)) (fun _ _ _ h => h) (Or.inl ⟨by rfl, ?_⟩) ?_ ?_
                      rotate_left
                      · intro w'
                        go_simp
                        with_reducible rfl
                      rotate_left
                      · simp only [Act.put, List.setIfInBounds_toArray, List.set_cons_zero, List.set_cons_succ, i64_w, i32_w]
                        rfl
                      refine take_ (i := 4) (N := some 43) (v := ?_) (a' := ?_) (dn_ 6 30) rfl rfl (take_ofW HT_.out HW_.out (by kernel_rfl)) (fun _ _ _ h => h) (Or.inl ⟨by rfl, ?_⟩) hHeld ?_ ?_
                      rotate_left
                      · rintro w' ⟨s0, s1, s2, s3, s4, s5, s6, s7, s8, s9, s10, s11, s12, s13, s14, s15⟩
                        go_simp
                        with_reducible rfl
                      rotate_left
                      · simp only [Act.put, List.setIfInBounds_toArray, List.set_cons_zero, List.set_cons_succ, i64_w, i32_w]
                        rfl
                      refine take_ (i := 6) (N := some 45) (v := ?_) (a' := ?_) (dn_ 7 30) rfl rfl (take_ofW HT_.out HW_.out (by kernel_rfl)) (fun _ _ _ h => h) (Or.inl ⟨by rfl, ?_⟩) hHeld ?_ ?_
                      rotate_left
                      · rintro w' ⟨s0, s1, s2, s3, s4, s5, s6, s7, s8, s9, s10, s11, s12, s13, s14, s15⟩
                        go_simp
                        with_reducible rfl
                      rotate_left
                      · simp only [Act.put, List.setIfInBounds_toArray, List.set_cons_zero, List.set_cons_succ, i64_w, i32_w]
                        rfl
                      refine pure_ (i := 7) (N := some 46) (v := ?_) (a' := ?_) (dn_ 8 30) rfl rfl (any_of HT_.out (by kernel_rfl)) (fun _ _ _ h => h) (Or.inl ⟨by rfl, ?_⟩) ?_ ?_
                      rotate_left
                      · intro w'
                        go_simp
                        with_reducible rfl
                      rotate_left
                      · simp only [Act.put, List.setIfInBounds_toArray, List.set_cons_zero, List.set_cons_succ, i64_w, i32_w]
                        rfl
                      refine pure_ (i := 8) (N := some 47) (v := ?_) (a' := ?_) (dn_ 9 30) rfl rfl (any_of HT_.out (by kernel_rfl)) (fun _ _ _ h => h) (Or.inl ⟨by rfl, ?_⟩) ?_ ?_
                      rotate_left
                      · intro w'
                        go_simp
                        with_reducible rfl
                      rotate_left
                      · simp only [Act.put, List.setIfInBounds_toArray, List.set_cons_zero, List.set_cons_succ, i64_w, i32_w]
                        rfl
                      refine pure_ (i := 9) (N := some 48) (v := ?_) (a' := ?_) (dn_ 10 30) rfl rfl (any_of HT_.out (by kernel_rfl)) (fun _ _ _ h => h) (Or.inl ⟨by rfl, ?_⟩) ?_ ?_
                      rotate_left
                      · intro w'
                        go_simp
                        with_reducible rfl
                      rotate_left
                      · simp only [Act.put, List.setIfInBounds_toArray, List.set_cons_zero, List.set_cons_succ, i64_w, i32_w]
                        rfl
                      refine pure_ (i := 10) (N := some 49) (v := ?_) (a' := ?_) (dn_ 11 30) rfl rfl (any_of HT_.out (by kernel_rfl)) (fun _ _ _ h => h) (Or.inl ⟨by rfl, ?_⟩) ?_ ?_
                      rotate_left
                      · intro w'
                        go_simp
                        with_reducible rfl
                      rotate_left
                      · simp only [Act.put, List.setIfInBounds_toArray, List.set_cons_zero, List.set_cons_succ, i64_w, i32_w]
                        rfl
                      refine pure_ (i := 11) (N := some 50) (v := ?_) (a' := ?_) (dn_ 12 30) rfl rfl (any_of HT_.out (by kernel_rfl)) (fun _ _ _ h => h) (Or.inl ⟨by rfl, ?_⟩) ?_ ?_
                      rotate_left
                      · intro w'
                        go_simp
                        with_reducible rfl
                      rotate_left
                      · simp only [Act.put, List.setIfInBounds_toArray, List.set_cons_zero, List.set_cons_succ, i64_w, i32_w]
                        rfl
                      refine pure_ (i := 12) (N := some 51) (v := ?_) (a' := ?_) (dn_ 13 30) rfl rfl (any_of HT_.out (by kernel_rfl)) (fun _ _ _ h => h) (Or.inl ⟨by rfl, ?_⟩) ?_ ?_
                      rotate_left
                      · intro w'
                        go_simp
                        with_reducible rfl
                      rotate_left
                      · simp only [Act.put, List.setIfInBounds_toArray, List.set_cons_zero, List.set_cons_succ, i64_w, i32_w]
                        rfl
                      refine pure_ (i := 14) (N := some 53) (v := ?_) (a' := ?_) #[true, true, true, true, true, true, true, true, true, true, true, true, true, false, true, false, false, false, false, false, false, false, false, false, false, false, false, false, false, false] rfl rfl (any_of HT_.out (by kernel_rfl)) (fun _ _ _ h => h) (Or.inl ⟨by rfl, ?_⟩) ?_ ?_
                      rotate_left
                      · intro w'
                        go_simp
                        with_reducible rfl
                      rotate_left
                      · simp only [Act.put, List.setIfInBounds_toArray, List.set_cons_zero, List.set_cons_succ, i64_w, i32_w]
                        rfl
                      refine take_ (i := 13) (N := some 52) (v := ?_) (a' := ?_) (dn_ 15 30) rfl rfl (take_ofW HT_.out HW_.out (by kernel_rfl)) (fun _ _ _ h => h) (Or.inl ⟨by rfl, ?_⟩) hHeld ?_ ?_
                      rotate_left
                      · rintro w' ⟨s0, s1, s2, s3, s4, s5, s6, s7, s8, s9, s10, s11, s12, s13, s14, s15⟩
                        go_simp
                        with_reducible rfl
                      rotate_left
                      · simp only [Act.put, List.setIfInBounds_toArray, List.set_cons_zero, List.set_cons_succ, i64_w, i32_w]
                        rfl
                      refine take_ (i := 15) (N := some 54) (v := ?_) (a' := ?_) (dn_ 16 30) rfl rfl (take_ofW HT_.out HW_.out (by kernel_rfl)) (fun _ _ _ h => h) (Or.inl ⟨by rfl, ?_⟩) hHeld ?_ ?_
                      rotate_left
                      · rintro w' ⟨s0, s1, s2, s3, s4, s5, s6, s7, s8, s9, s10, s11, s12, s13, s14, s15⟩
                        go_simp
                        with_reducible rfl
                      rotate_left
                      · simp only [Act.put, List.setIfInBounds_toArray, List.set_cons_zero, List.set_cons_succ, i64_w, i32_w]
                        rfl
                      refine pure_ (i := 16) (N := some 55) (v := ?_) (a' := ?_) (dn_ 17 30) rfl rfl (any_of HT_.out (by kernel_rfl)) (fun _ _ _ h => h) (Or.inl ⟨by rfl, ?_⟩) ?_ ?_
                      rotate_left
                      · intro w'
                        go_simp
                        with_reducible rfl
                      rotate_left
                      · simp only [Act.put, List.setIfInBounds_toArray, List.set_cons_zero, List.set_cons_succ, i64_w, i32_w]
                        rfl
                      refine pure_ (i := 17) (N := some 56) (v := ?_) (a' := ?_) (dn_ 18 30) rfl rfl (any_of HT_.out (by kernel_rfl)) (fun _ _ _ h => h) (Or.inl ⟨by rfl, ?_⟩) ?_ ?_
                      rotate_left
                      · intro w'
                        go_simp
                        with_reducible rfl
                      rotate_left
                      · simp only [Act.put, List.setIfInBounds_toArray, List.set_cons_zero, List.set_cons_succ, i64_w, i32_w]
                        rfl
                      refine pure_ (i := 18) (N := some 57) (v := ?_) (a' := ?_) (dn_ 19 30) rfl rfl (any_of HT_.out (by kernel_rfl)) (fun _ _ _ h => h) (Or.inl ⟨by rfl, ?_⟩) ?_ ?_
                      rotate_left
                      · intro w'
                        go_simp
                        with_reducible rfl
                      rotate_left
                      · simp only [Act.put, List.setIfInBounds_toArray, List.set_cons_zero, List.set_cons_succ, i64_w, i32_w]
                        rfl
                      refine pure_ (i := 19) (N := some 58) (v := ?_) (a' := ?_) (dn_ 20 30) rfl rfl (any_of HT_.out (by kernel_rfl)) (fun _ _ _ h => h) (Or.inl ⟨by rfl, ?_⟩) ?_ ?_
                      rotate_left
                      · intro w'
                        go_simp
                        with_reducible rfl
                      rotate_left
                      · simp only [Act.put, List.setIfInBounds_toArray, List.set_cons_zero, List.set_cons_succ, i64_w, i32_w]
                        rfl
                      refine pure_ (i := 20) (N := some 59) (v := ?_) (a' := ?_) (dn_ 21 30) rfl rfl (any_of HT_.out (by kernel_rfl)) (fun _ _ _ h => h) (Or.inl ⟨by rfl, ?_⟩) ?_ ?_
                      rotate_left
                      · intro w'
                        go_simp
                        with_reducible rfl
                      rotate_left
                      · simp only [Act.put, List.setIfInBounds_toArray, List.set_cons_zero, List.set_cons_succ, i64_w, i32_w]
                        rfl
                      refine pure_ (i := 21) (N := some 60) (v := ?_) (a' := ?_) (dn_ 22 30) rfl rfl (any_of HT_.out (by kernel_rfl)) (fun _ _ _ h => h) (Or.inl ⟨by rfl, ?_⟩) ?_ ?_
                      rotate_left
                      · intro w'
                        go_simp
                        with_reducible rfl
                      rotate_left
                      · simp only [Act.put, List.setIfInBounds_toArray, List.set_cons_zero, List.set_cons_succ, i64_w, i32_w]
                        rfl
                      refine pure_ (i := 24) (N := some 63) (v := ?_) (a' := ?_) #[true, true, true, true, true, true, true, true, true, true, true, true, true, true, true, true, true, true, true, true, true, true, false, false, true, false, false, false, false, false] rfl rfl (any_of HT_.out (by kernel_rfl)) (fun _ _ _ h => h) (Or.inl ⟨by rfl, ?_⟩) ?_ ?_
                      rotate_left
                      · intro w'
                        go_simp
                        with_reducible rfl
                      rotate_left
                      · simp only [Act.put, List.setIfInBounds_toArray, List.set_cons_zero, List.set_cons_succ, i64_w, i32_w]
                        rfl
                      refine take_ (i := 22) (N := some 61) (v := ?_) (a' := ?_) #[true, true, true, true, true, true, true, true, true, true, true, true, true, true, true, true, true, true, true, true, true, true, true, false, true, false, false, false, false, false] rfl rfl (take_ofW HT_.out HW_.out (by kernel_rfl)) (fun _ _ _ h => h) (Or.inl ⟨by rfl, ?_⟩) hHeld ?_ ?_
                      rotate_left
                      · rintro w' ⟨s0, s1, s2, s3, s4, s5, s6, s7, s8, s9, s10, s11, s12, s13, s14, s15⟩
                        go_simp
                        with_reducible rfl
                      rotate_left
                      · simp only [Act.put, List.setIfInBounds_toArray, List.set_cons_zero, List.set_cons_succ, i64_w, i32_w]
                        rfl
                      refine pure_ (i := 23) (N := some 62) (v := ?_) (a' := ?_) (dn_ 25 30) rfl rfl (any_of HT_.out (by kernel_rfl)) (fun _ _ _ h => h) (Or.inl ⟨by rfl, ?_⟩) ?_ ?_
                      rotate_left
                      · intro w'
                        go_simp
                        with_reducible rfl
                      rotate_left
                      · simp only [Act.put, List.setIfInBounds_toArray, List.set_cons_zero, List.set_cons_succ, i64_w, i32_w]
                        rfl
                      refine take_ (i := 25) (N := some 64) (v := ?_) (a' := ?_) (dn_ 26 30) rfl rfl (take_ofW HT_.out HW_.out (by kernel_rfl)) (fun _ _ _ h => h) (Or.inl ⟨by rfl, ?_⟩) hHeld ?_ ?_
                      rotate_left
                      · rintro w' ⟨s0, s1, s2, s3, s4, s5, s6, s7, s8, s9, s10, s11, s12, s13, s14, s15⟩
                        go_simp
                        with_reducible rfl
                      rotate_left
                      · simp only [Act.put, List.setIfInBounds_toArray, List.set_cons_zero, List.set_cons_succ, i64_w, i32_w]
                        rfl
                      refine pure_ (i := 26) (N := some 65) (v := ?_) (a' := ?_) (dn_ 27 30) rfl rfl (any_of HT_.out (by kernel_rfl)) (fun _ _ _ h => h) (Or.inl ⟨by rfl, ?_⟩) ?_ ?_
                      rotate_left
                      · intro w'
                        go_simp
                        with_reducible rfl
                      rotate_left
                      · simp only [Act.put, List.setIfInBounds_toArray, List.set_cons_zero, List.set_cons_succ, i64_w, i32_w]
                        rfl
                      refine pure_ (i := 27) (N := some 66) (v := ?_) (a' := ?_) (dn_ 28 30) rfl rfl (any_of HT_.out (by kernel_rfl)) (fun _ _ _ h => h) (Or.inl ⟨by rfl, ?_⟩) ?_ ?_
                      rotate_left
                      · intro w'
                        go_simp
                        with_reducible rfl
                      rotate_left
                      · simp only [Act.put, List.setIfInBounds_toArray, List.set_cons_zero, List.set_cons_succ, i64_w, i32_w]
                        rfl
                      refine pure_ (i := 28) (N := some 67) (v := ?_) (a' := ?_) (dn_ 29 30) rfl rfl (any_of HT_.out (by kernel_rfl)) (fun _ _ _ h => h) (Or.inl ⟨by rfl, ?_⟩) ?_ ?_
                      rotate_left
                      · intro w'
                        go_simp
                        with_reducible rfl
                      rotate_left
                      · simp only [Act.put, List.setIfInBounds_toArray, List.set_cons_zero, List.set_cons_succ, i64_w, i32_w]
                        rfl
                      refine pure_ (i := 29) (N := some 68) (v := ?_) (a' := ?_) #[true, true, true, true, true, true, true, true, true, true, true, true, true, true, true, true, true, true, true, true, true, true, true, true, true, true, true, true, true, true] rfl rfl (any_of HT_.out (by kernel_rfl)) (fun _ _ _ h => h) (Or.inl ⟨by rfl, ?_⟩) ?_ ?_
                      rotate_left
                      · intro w'
                        go_simp
                        with_reducible rfl
                      rotate_left
                      · simp only [Act.put, List.setIfInBounds_toArray, List.set_cons_zero, List.set_cons_succ, i64_w, i32_w]
                        rfl
                      refine done_ (done_of HT_.out (by kernel_rfl)) ?_
                      try go_wp2
                      go_meet
                      case rel => exact ⟨_, (decide ((((rd_T36 l0 x8_2).f3).length : Int) > (t391.length : Int))), (by first | rfl | (simp; done) | (simp [*]; done)), H', ⟨by have := HJ2.out; have := HK2.out; first | omega | exact Nat.le_refl _⟩, ⟨by (with_reducible repeat (first | apply Kd.V_alloc | apply Kd.V_drewN | apply Kd.V_drew)); exact HO_0.out⟩, ⟨by (with_reducible repeat (first | apply Kd.V_alloc | apply Kd.V_drewN | apply Kd.V_drew)); exact HO_383003.out⟩, ⟨by (with_reducible repeat (first | apply Kd.R_alloc | apply Kd.R_drewN | apply Kd.R_drew)); exact HO_396003.out⟩, ⟨by (with_reducible repeat (first | refine blk_drewN ?_ _ | refine blk_drew ?_ | refine blk_alloc ?_ _)); exact BK382.out⟩, ⟨by (with_reducible repeat (first | refine blk_drewN ?_ _ | refine blk_drew ?_ | refine blk_alloc ?_ _)); exact BK395.out⟩, ⟨by repeat (first | (with_reducible first | exact HB.out | apply below_alloc | apply pw_below_drewN | apply below_drew1 | refine below_set ?_ GE382.out | refine below_set ?_ GE395.out) | exact HB.out)⟩⟩
                    · rw [if_neg c34] at H
                      have c34b0 : (((rd_T36 l0 x8_2).f1) == t389) = false := beq_eq_false_iff_ne.mpr c34
                      have c34b1 : (((rd_T36 l0 x8_2).f1) != t389) = true := bne_iff_ne.mpr c34
                      have H' := Aside0.mk H
                      clear H
                      try go_wp2
                      have n0_ := Aside0.mk (Kd.V_drew HO_0.out)
                      have n1_ := Aside0.mk (Kd.V_drew HO_383003.out)
                      have n2_ := Aside0.mk (Kd.R_drew HO_396003.out)
                      have n3_ := Aside0.mk (blk_drew BK382.out)
                      have n4_ := Aside0.mk (blk_drew BK395.out)
                      have n5_ := Aside0.mk (below_drew1 HB.out)
                      clear HO_0
                      clear HO_383003
                      clear HO_396003
                      clear BK382
                      clear BK395
                      clear HB
                      have HO_0 := n0_
                      have HO_383003 := n1_
                      have HO_396003 := n2_
                      have BK382 := n3_
                      have BK395 := n4_
                      have HB := n5_
                      clear n0_ n1_ n2_ n3_ n4_ n5_
                      have p396 : 0 ≤ (x8_2 : Int) := of_decide_eq_true (by first | (with_reducible assumption) | assumption)
                      have q396 : x8_2 < (l0.length : Int) := of_decide_eq_true (by first | (with_reducible assumption) | assumption)
                      obtain ⟨ad396, A396_3, c396_3, e396, hx396_0, hx396_1, hx396_2, hx396_3, hl396_3, hi396_3⟩ := at_T36 (Kd.V_reads' HO_0.out).2.2 x8_2 p396 q396
                      cases e396
                      obtain ⟨ce396, hce396, hMe396, hcc396⟩ := Kd.V_get HO_0.out z36 x8_2 p396 (by first | exact q396 | exact of_decide_eq_true (by first | (with_reducible assumption) | assumption) | (have e_ := (Kd.V_reads' HO_0.out).1; omega))
                      obtain ⟨ua396_3, uc396_3, rfl, ul396_3, ge396_3⟩ := k36_openF hMe396
                      have hv396_3 := hcc396 3 _ rfl
                      rw [add_field _ _ 3 (by omega)] at hv396_3
                      replace hv396_3 := Option.some.inj (hv396_3.symm.trans hx396_3)
                      injection hv396_3 with hva_ hvn_ hvc_
                      rw [hva_] at ge396_3
                      rw [hvc_] at ul396_3
                      have HL396_3 := Aside0.mk (show Kd.V Kd.string 9 _ w.heap.size _ _ ((rd_T36 l0 x8_2).f3) from Kd.V_mk ul396_3 ge396_3)
                      clear hva_ hvn_ hvc_ ge396_3 ul396_3
                      clear hcc396 hce396
                      have HR396_3 := Aside0.mk hi396_3
                      have HC396_3 := Aside0.mk hl396_3
                      clear hi396_3 hl396_3
                      replace p396 := eq_true p396
                      replace q396 := eq_true q396
                      have p397 : 0 ≤ (x8_2 : Int) := of_decide_eq_true (by first | (with_reducible assumption) | assumption)
                      have q397 : x8_2 < (l0.length : Int) := of_decide_eq_true (by first | (with_reducible assumption) | assumption)
                      obtain ⟨ad397, A397_3, c397_3, e397, hx397_0, hx397_1, hx397_2, hx397_3, hl397_3, hi397_3⟩ := at_T36 (Kd.V_reads' HO_0.out).2.2 x8_2 p397 q397
                      obtain rfl : ad396 = ad397 := (by injection e397)
                      obtain ⟨ce397, hce397, hMe397, hcc397⟩ := Kd.V_get HO_0.out z36 x8_2 p397 (by first | exact q397 | exact of_decide_eq_true (by first | (with_reducible assumption) | assumption) | (have e_ := (Kd.V_reads' HO_0.out).1; omega))
                      obtain ⟨ua397_3, uc397_3, rfl, ul397_3, ge397_3⟩ := k36_openF hMe397
                      have hv397_3 := hcc397 3 _ rfl
                      rw [add_field _ _ 3 (by omega)] at hv397_3
                      replace hv397_3 := Option.some.inj (hv397_3.symm.trans hx397_3)
                      injection hv397_3 with hva_ hvn_ hvc_
                      rw [hva_] at ge397_3
                      rw [hvc_] at ul397_3
                      have HL397_3 := Aside0.mk (show Kd.V Kd.string 9 _ w.heap.size _ _ ((rd_T36 l0 x8_2).f3) from Kd.V_mk ul397_3 ge397_3)
                      clear hva_ hvn_ hvc_ ge397_3 ul397_3
                      clear hcc397 hce397
                      have HR397_3 := Aside0.mk hi397_3
                      have HC397_3 := Aside0.mk hl397_3
                      clear hi397_3 hl397_3
                      replace p397 := eq_true p397
                      replace q397 := eq_true q397
                      have ea_ := Option.some.inj (hx396_3.symm.trans hx397_3)
                      injection ea_ with ea_ en_ ec_
                      subst ea_
                      subst ec_
                      clear en_
                      refine start_ (n := 30) (S := fun w' => w'.cell? ⟨gb395, 0, none⟩ = some (.int .i64 t388) ∧ w'.cell? ⟨gb395, 1, none⟩ = some (.int .i64 t389) ∧ w'.cell? ⟨gb395, 2, none⟩ = some (.int .i64 t390) ∧ w'.cell? ⟨gb395, 3, none⟩ = some (.slice Ao28 t391.length co28) ∧ w'.cell? (ad396.add ((x8_2).toNat * 4)) = some (.int .i64 ((rd_T36 l0 x8_2).f0)) ∧ w'.cell? ⟨(ad396.add ((x8_2).toNat * 4)).block, (ad396.add ((x8_2).toNat * 4)).off + 1, none⟩ = some (.int .i64 ((rd_T36 l0 x8_2).f1)) ∧ w'.cell? ⟨(ad396.add ((x8_2).toNat * 4)).block, (ad396.add ((x8_2).toNat * 4)).off + 2, none⟩ = some (.int .i64 ((rd_T36 l0 x8_2).f2)) ∧ w'.cell? ⟨(ad396.add ((x8_2).toNat * 4)).block, (ad396.add ((x8_2).toNat * 4)).off + 3, none⟩ = some (.slice A396_3 ((rd_T36 l0 x8_2).f3).length c396_3) ∧ w'.cell? (ad396.add ((x8_2).toNat * 4)) = some (.int .i64 ((rd_T36 l0 x8_2).f0)) ∧ w'.cell? ⟨(ad396.add ((x8_2).toNat * 4)).block, (ad396.add ((x8_2).toNat * 4)).off + 1, none⟩ = some (.int .i64 ((rd_T36 l0 x8_2).f1)) ∧ w'.cell? ⟨(ad396.add ((x8_2).toNat * 4)).block, (ad396.add ((x8_2).toNat * 4)).off + 2, none⟩ = some (.int .i64 ((rd_T36 l0 x8_2).f2)) ∧ w'.cell? ⟨(ad396.add ((x8_2).toNat * 4)).block, (ad396.add ((x8_2).toNat * 4)).off + 3, none⟩ = some (.slice A396_3 ((rd_T36 l0 x8_2).f3).length c396_3)) (ds := []) #[false, false, false, false, false, false, false, false, false, false, false, false, false, false, false, false, false, false, false, false, false, false, false, false, false, false, false, false, false, false] (by kernel_rfl) rfl rfl ⟨(blk_cell BK395.out 0).trans rfl, (blk_cell BK395.out 1).trans rfl, (blk_cell BK395.out 2).trans rfl, (blk_cell BK395.out 3).trans rfl, hx396_0, hx396_1, hx396_2, hx396_3, hx397_0, hx397_1, hx397_2, hx397_3⟩ (fun hHeld => ?_); refine with_tabW watchmanlaw23_LogBest.tab8 watchmanlaw23_LogBest.bits8 (fun HT_ HW_ => ?_)
                      generalize wr.drew = w36 at HO_0 HO_383003 HO_396003 BK382 BK395 HB HL396_3 HL397_3 HR396_3 HR397_3 hx396_0 hx396_1 hx396_2 hx396_3 hx397_0 hx397_1 hx397_2 hx397_3 hHeld ⊢
                      refine pure_ (i := 0) (N := some 39) (v := ?_) (a' := ?_) (dn_ 1 30) rfl rfl (any_of HT_.out (by kernel_rfl)) (fun _ _ _ h => h) (Or.inl ⟨by rfl, ?_⟩) ?_ ?_
                      rotate_left
                      · intro w'
                        go_simp
                        with_reducible rfl
                      rotate_left
                      · simp only [Act.put, List.setIfInBounds_toArray, List.set_cons_zero, List.set_cons_succ, i64_w, i32_w]
                        rfl
                      refine pure_ (i := 1) (N := some 40) (v := ?_) (a' := ?_) (dn_ 2 30) rfl rfl (any_of HT_.out (by kernel_rfl)) (fun _ _ _ h => h) (Or.inl ⟨by rfl, ?_⟩) ?_ ?_
                      rotate_left
                      · intro w'
                        go_simp
                        with_reducible rfl
                      rotate_left
                      · simp only [Act.put, List.setIfInBounds_toArray, List.set_cons_zero, List.set_cons_succ, i64_w, i32_w]
                        rfl
                      refine pure_ (i := 2) (N := some 41) (v := ?_) (a' := ?_) (dn_ 3 30) rfl rfl (any_of HT_.out (by kernel_rfl)) (fun _ _ _ h => h) (Or.inl ⟨by rfl, ?_⟩) ?_ ?_
                      rotate_left
                      · intro w'
                        go_simp
                        with_reducible rfl
                      rotate_left
                      · simp only [Act.put, List.setIfInBounds_toArray, List.set_cons_zero, List.set_cons_succ, i64_w, i32_w]
                        rfl
                      refine pure_ (i := 3) (N := some 42) (v := ?_) (a' := ?_) (dn_ 4 30) rfl rfl (any_of HT_.out (by kernel_rfl)) (fun _ _ _ h => h) (Or.inl ⟨by rfl, ?_⟩) ?_ ?_
                      rotate_left
                      · intro w'
                        go_simp
                        with_reducible rfl
                      rotate_left
                      · simp only [Act.put, List.setIfInBounds_toArray, List.set_cons_zero, List.set_cons_succ, i64_w, i32_w]
                        rfl
                      refine pure_ (i := 5) (N := some 44) (v := ?_) (a' := ?_) #[true, true, true, true, false, true, false, false, false, false, false, false, false, false, false, false, false, false, false, false, false, false, false, false, false, false, false, false, false, false] rfl rfl (any_of HT_.out (by kernel_rfl)) (fun _ _ _ h => h) (Or.inl ⟨by rfl, ?_⟩) ?_ ?_
                      rotate_left
                      · intro w'
                        go_simp
                        with_reducible rfl
                      rotate_left
                      · simp only [Act.put, List.setIfInBounds_toArray, List.set_cons_zero, List.set_cons_succ, i64_w, i32_w]
                        rfl
                      refine take_ (i := 4) (N := some 43) (v := ?_) (a' := ?_) (dn_ 6 30) rfl rfl (take_ofW HT_.out HW_.out (by kernel_rfl)) (fun _ _ _ h => h) (Or.inl ⟨by rfl, ?_⟩) hHeld ?_ ?_
                      rotate_left
                      · rintro w' ⟨s0, s1, s2, s3, s4, s5, s6, s7, s8, s9, s10, s11⟩
                        go_simp
                        with_reducible rfl
                      rotate_left
                      · simp only [Act.put, List.setIfInBounds_toArray, List.set_cons_zero, List.set_cons_succ, i64_w, i32_w]
                        rfl
                      refine take_ (i := 6) (N := some 45) (v := ?_) (a' := ?_) (dn_ 7 30) rfl rfl (take_ofW HT_.out HW_.out (by kernel_rfl)) (fun _ _ _ h => h) (Or.inl ⟨by rfl, ?_⟩) hHeld ?_ ?_
                      rotate_left
                      · rintro w' ⟨s0, s1, s2, s3, s4, s5, s6, s7, s8, s9, s10, s11⟩
                        go_simp
                        with_reducible rfl
                      rotate_left
                      · simp only [Act.put, List.setIfInBounds_toArray, List.set_cons_zero, List.set_cons_succ, i64_w, i32_w]
                        rfl
                      refine pure_ (i := 7) (N := some 46) (v := ?_) (a' := ?_) (dn_ 8 30) rfl rfl (any_of HT_.out (by kernel_rfl)) (fun _ _ _ h => h) (Or.inl ⟨by rfl, ?_⟩) ?_ ?_
                      rotate_left
                      · intro w'
                        go_simp
                        with_reducible rfl
                      rotate_left
                      · simp only [Act.put, List.setIfInBounds_toArray, List.set_cons_zero, List.set_cons_succ, i64_w, i32_w]
                        rfl
                      refine pure_ (i := 8) (N := some 47) (v := ?_) (a' := ?_) (dn_ 9 30) rfl rfl (any_of HT_.out (by kernel_rfl)) (fun _ _ _ h => h) (Or.inl ⟨by rfl, ?_⟩) ?_ ?_
                      rotate_left
                      · intro w'
                        go_simp
                        with_reducible rfl
                      rotate_left
                      · simp only [Act.put, List.setIfInBounds_toArray, List.set_cons_zero, List.set_cons_succ, i64_w, i32_w]
                        rfl
                      refine pure_ (i := 9) (N := some 48) (v := ?_) (a' := ?_) (dn_ 10 30) rfl rfl (any_of HT_.out (by kernel_rfl)) (fun _ _ _ h => h) (Or.inl ⟨by rfl, ?_⟩) ?_ ?_
                      rotate_left
                      · intro w'
                        go_simp
                        with_reducible rfl
                      rotate_left
                      · simp only [Act.put, List.setIfInBounds_toArray, List.set_cons_zero, List.set_cons_succ, i64_w, i32_w]
                        rfl
                      refine pure_ (i := 10) (N := some 49) (v := ?_) (a' := ?_) (dn_ 11 30) rfl rfl (any_of HT_.out (by kernel_rfl)) (fun _ _ _ h => h) (Or.inl ⟨by rfl, ?_⟩) ?_ ?_
                      rotate_left
                      · intro w'
                        go_simp
                        with_reducible rfl
                      rotate_left
                      · simp only [Act.put, List.setIfInBounds_toArray, List.set_cons_zero, List.set_cons_succ, i64_w, i32_w]
                        rfl
                      refine pure_ (i := 11) (N := some 50) (v := ?_) (a' := ?_) (dn_ 12 30) rfl rfl (any_of HT_.out (by kernel_rfl)) (fun _ _ _ h => h) (Or.inl ⟨by rfl, ?_⟩) ?_ ?_
                      rotate_left
                      · intro w'
                        go_simp
                        with_reducible rfl
                      rotate_left
                      · simp only [Act.put, List.setIfInBounds_toArray, List.set_cons_zero, List.set_cons_succ, i64_w, i32_w]
                        rfl
                      refine pure_ (i := 12) (N := some 51) (v := ?_) (a' := ?_) (dn_ 13 30) rfl rfl (any_of HT_.out (by kernel_rfl)) (fun _ _ _ h => h) (Or.inl ⟨by rfl, ?_⟩) ?_ ?_
                      rotate_left
                      · intro w'
                        go_simp
                        with_reducible rfl
                      rotate_left
                      · simp only [Act.put, List.setIfInBounds_toArray, List.set_cons_zero, List.set_cons_succ, i64_w, i32_w]
                        rfl
                      refine pure_ (i := 14) (N := some 53) (v := ?_) (a' := ?_) #[true, true, true, true, true, true, true, true, true, true, true, true, true, false, true, false, false, false, false, false, false, false, false, false, false, false, false, false, false, false] rfl rfl (any_of HT_.out (by kernel_rfl)) (fun _ _ _ h => h) (Or.inl ⟨by rfl, ?_⟩) ?_ ?_
                      rotate_left
                      · intro w'
                        go_simp
                        with_reducible rfl
                      rotate_left
                      · simp only [Act.put, List.setIfInBounds_toArray, List.set_cons_zero, List.set_cons_succ, i64_w, i32_w]
                        rfl
                      refine take_ (i := 13) (N := some 52) (v := ?_) (a' := ?_) (dn_ 15 30) rfl rfl (take_ofW HT_.out HW_.out (by kernel_rfl)) (fun _ _ _ h => h) (Or.inl ⟨by rfl, ?_⟩) hHeld ?_ ?_
                      rotate_left
                      · rintro w' ⟨s0, s1, s2, s3, s4, s5, s6, s7, s8, s9, s10, s11⟩
                        go_simp
                        with_reducible rfl
                      rotate_left
                      · simp only [Act.put, List.setIfInBounds_toArray, List.set_cons_zero, List.set_cons_succ, i64_w, i32_w]
                        rfl
                      refine take_ (i := 15) (N := some 54) (v := ?_) (a' := ?_) (dn_ 16 30) rfl rfl (take_ofW HT_.out HW_.out (by kernel_rfl)) (fun _ _ _ h => h) (Or.inl ⟨by rfl, ?_⟩) hHeld ?_ ?_
                      rotate_left
                      · rintro w' ⟨s0, s1, s2, s3, s4, s5, s6, s7, s8, s9, s10, s11⟩
                        go_simp
                        with_reducible rfl
                      rotate_left
                      · simp only [Act.put, List.setIfInBounds_toArray, List.set_cons_zero, List.set_cons_succ, i64_w, i32_w]
                        rfl
                      refine pure_ (i := 16) (N := some 55) (v := ?_) (a' := ?_) (dn_ 17 30) rfl rfl (any_of HT_.out (by kernel_rfl)) (fun _ _ _ h => h) (Or.inl ⟨by rfl, ?_⟩) ?_ ?_
                      rotate_left
                      · intro w'
                        go_simp
                        with_reducible rfl
                      rotate_left
                      · simp only [Act.put, List.setIfInBounds_toArray, List.set_cons_zero, List.set_cons_succ, i64_w, i32_w]
                        rfl
                      refine pure_ (i := 17) (N := some 56) (v := ?_) (a' := ?_) (dn_ 18 30) rfl rfl (any_of HT_.out (by kernel_rfl)) (fun _ _ _ h => h) (Or.inl ⟨by rfl, ?_⟩) ?_ ?_
                      rotate_left
                      · intro w'
                        go_simp
                        with_reducible rfl
                      rotate_left
                      · simp only [Act.put, List.setIfInBounds_toArray, List.set_cons_zero, List.set_cons_succ, i64_w, i32_w]
                        rfl
                      refine pure_ (i := 18) (N := some 57) (v := undef) (a' := ?_) (dn_ 19 30) rfl rfl (any_of HT_.out (by kernel_rfl)) (fun _ _ _ h => h) (Or.inr ⟨by rfl, rfl⟩) ?_ ?_
                      rotate_left
                      · simp only [Act.put, List.setIfInBounds_toArray, List.set_cons_zero, List.set_cons_succ, i64_w, i32_w]
                        rfl
                      refine pure_ (i := 19) (N := some 58) (v := undef) (a' := ?_) (dn_ 20 30) rfl rfl (any_of HT_.out (by kernel_rfl)) (fun _ _ _ h => h) (Or.inr ⟨by rfl, rfl⟩) ?_ ?_
                      rotate_left
                      · simp only [Act.put, List.setIfInBounds_toArray, List.set_cons_zero, List.set_cons_succ, i64_w, i32_w]
                        rfl
                      refine pure_ (i := 20) (N := some 59) (v := undef) (a' := ?_) (dn_ 21 30) rfl rfl (any_of HT_.out (by kernel_rfl)) (fun _ _ _ h => h) (Or.inr ⟨by rfl, rfl⟩) ?_ ?_
                      rotate_left
                      · simp only [Act.put, List.setIfInBounds_toArray, List.set_cons_zero, List.set_cons_succ, i64_w, i32_w]
                        rfl
                      refine pure_ (i := 21) (N := some 60) (v := undef) (a' := ?_) (dn_ 22 30) rfl rfl (any_of HT_.out (by kernel_rfl)) (fun _ _ _ h => h) (Or.inr ⟨by rfl, rfl⟩) ?_ ?_
                      rotate_left
                      · simp only [Act.put, List.setIfInBounds_toArray, List.set_cons_zero, List.set_cons_succ, i64_w, i32_w]
                        rfl
                      refine pure_ (i := 22) (N := some 61) (v := undef) (a' := ?_) (dn_ 23 30) rfl rfl (any_of HT_.out (by kernel_rfl)) (fun _ _ _ h => h) (Or.inr ⟨by rfl, rfl⟩) ?_ ?_
                      rotate_left
                      · simp only [Act.put, List.setIfInBounds_toArray, List.set_cons_zero, List.set_cons_succ, i64_w, i32_w]
                        rfl
                      refine pure_ (i := 23) (N := some 62) (v := undef) (a' := ?_) (dn_ 24 30) rfl rfl (any_of HT_.out (by kernel_rfl)) (fun _ _ _ h => h) (Or.inr ⟨by rfl, rfl⟩) ?_ ?_
                      rotate_left
                      · simp only [Act.put, List.setIfInBounds_toArray, List.set_cons_zero, List.set_cons_succ, i64_w, i32_w]
                        rfl
                      refine pure_ (i := 24) (N := some 63) (v := undef) (a' := ?_) (dn_ 25 30) rfl rfl (any_of HT_.out (by kernel_rfl)) (fun _ _ _ h => h) (Or.inr ⟨by rfl, rfl⟩) ?_ ?_
                      rotate_left
                      · simp only [Act.put, List.setIfInBounds_toArray, List.set_cons_zero, List.set_cons_succ, i64_w, i32_w]
                        rfl
                      refine pure_ (i := 25) (N := some 64) (v := undef) (a' := ?_) (dn_ 26 30) rfl rfl (any_of HT_.out (by kernel_rfl)) (fun _ _ _ h => h) (Or.inr ⟨by rfl, rfl⟩) ?_ ?_
                      rotate_left
                      · simp only [Act.put, List.setIfInBounds_toArray, List.set_cons_zero, List.set_cons_succ, i64_w, i32_w]
                        rfl
                      refine pure_ (i := 26) (N := some 65) (v := undef) (a' := ?_) (dn_ 27 30) rfl rfl (any_of HT_.out (by kernel_rfl)) (fun _ _ _ h => h) (Or.inr ⟨by rfl, rfl⟩) ?_ ?_
                      rotate_left
                      · simp only [Act.put, List.setIfInBounds_toArray, List.set_cons_zero, List.set_cons_succ, i64_w, i32_w]
                        rfl
                      refine pure_ (i := 27) (N := some 66) (v := undef) (a' := ?_) (dn_ 28 30) rfl rfl (any_of HT_.out (by kernel_rfl)) (fun _ _ _ h => h) (Or.inr ⟨by rfl, rfl⟩) ?_ ?_
                      rotate_left
                      · simp only [Act.put, List.setIfInBounds_toArray, List.set_cons_zero, List.set_cons_succ, i64_w, i32_w]
                        rfl
                      refine pure_ (i := 28) (N := some 67) (v := ?_) (a' := ?_) (dn_ 29 30) rfl rfl (any_of HT_.out (by kernel_rfl)) (fun _ _ _ h => h) (Or.inl ⟨by rfl, ?_⟩) ?_ ?_
                      rotate_left
                      · intro w'
                        go_simp
                        with_reducible rfl
                      rotate_left
                      · simp only [Act.put, List.setIfInBounds_toArray, List.set_cons_zero, List.set_cons_succ, i64_w, i32_w]
                        rfl
                      refine pure_ (i := 29) (N := some 68) (v := ?_) (a' := ?_) #[true, true, true, true, true, true, true, true, true, true, true, true, true, true, true, true, true, true, true, true, true, true, true, true, true, true, true, true, true, true] rfl rfl (any_of HT_.out (by kernel_rfl)) (fun _ _ _ h => h) (Or.inl ⟨by rfl, ?_⟩) ?_ ?_
                      rotate_left
                      · intro w'
                        go_simp
                        with_reducible rfl
                      rotate_left
                      · simp only [Act.put, List.setIfInBounds_toArray, List.set_cons_zero, List.set_cons_succ, i64_w, i32_w]
                        rfl
                      refine done_ (done_of HT_.out (by kernel_rfl)) ?_
                      try go_wp2
                      go_meet
                      case rel => exact ⟨_, (false), (by first | rfl | (simp; done) | (simp [*]; done)), H', ⟨by have := HJ2.out; have := HK2.out; first | omega | exact Nat.le_refl _⟩, ⟨by (with_reducible repeat (first | apply Kd.V_alloc | apply Kd.V_drewN | apply Kd.V_drew)); exact HO_0.out⟩, ⟨by (with_reducible repeat (first | apply Kd.V_alloc | apply Kd.V_drewN | apply Kd.V_drew)); exact HO_383003.out⟩, ⟨by (with_reducible repeat (first | apply Kd.R_alloc | apply Kd.R_drewN | apply Kd.R_drew)); exact HO_396003.out⟩, ⟨by (with_reducible repeat (first | refine blk_drewN ?_ _ | refine blk_drew ?_ | refine blk_alloc ?_ _)); exact BK382.out⟩, ⟨by (with_reducible repeat (first | refine blk_drewN ?_ _ | refine blk_drew ?_ | refine blk_alloc ?_ _)); exact BK395.out⟩, ⟨by repeat (first | (with_reducible first | exact HB.out | apply below_alloc | apply pw_below_drewN | apply below_drew1 | refine below_set ?_ GE382.out | refine below_set ?_ GE395.out) | exact HB.out)⟩⟩
                · rw [if_neg c31] at H
                  exact absurd H (by simp)
              case rest =>
                clear HC30
                try clear p2
                try clear c3
                try clear p3
                try clear q3
                try clear hx3
                try clear c31
                try clear c34
                try clear c34b0
                try clear c34b1
                try clear hx396_0
                try clear hx396_1
                try clear hx396_2
                try clear hx396_3
                try clear hx397_0
                try clear hx397_1
                try clear hx397_2
                try clear hx397_3
                try clear hx398_0
                try clear hx398_1
                try clear hx398_2
                try clear hx398_3
                try clear p396
                try clear p397
                try clear p398
                try clear q396
                try clear q397
                try clear q398
                obtain ⟨kq, x68_29, rfl, HA, HJ29, HO_0, HO_383003, HO_396003, BK382, BK395, HB⟩ := hcut
                cases kq with
                | zero => exact absurd HA.out (by simp [watchmanlaw23_LogBest.j2])
                | succ kj29 =>
                  have H := HA.out
                  clear HA
                  simp only [watchmanlaw23_LogBest.j2] at H
                  by_cases c37 : x68_29 = true
                  · subst c37
                    have H1 : (none) = some r := by rw [if_pos rfl] at H; exact H
                    clear H
                    have H := H1
                    clear H1
                    exact absurd H (by simp)
                  · replace c37 := Bool.eq_false_iff.mpr c37
                    subst c37
                    have H1 : (if x7_2 = true then (watchmanlaw23_LogBest.l0 kj29 l0 t394 true (wrap64 (x8_2 + 1)) a1_0 a1_1 a1_2 l1_3 t388 t389 t390 t391) else (if 0 ≤ x8_2 then (if x8_2 < (l0.length : Int) then ((watchmanref23_SameVote.f kj29 ((rd_T36 l0 x8_2).f0) ((rd_T36 l0 x8_2).f1) ((rd_T36 l0 x8_2).f2) ((rd_T36 l0 x8_2).f3) t388 t389 t390 t391).bind fun t400 => (watchmanlaw23_LogBest.l0 kj29 l0 t394 t400 (wrap64 (x8_2 + 1)) a1_0 a1_1 a1_2 l1_3 t388 t389 t390 t391)) else (none)) else (none))) = some r := by rw [if_neg (show ¬ (false = true) by decide)] at H; exact H
                    clear H
                    have H := H1
                    clear H1
                    by_cases c38 : x7_2 = true
                    · subst c38
                      have H1 : (watchmanlaw23_LogBest.l0 kj29 l0 t394 true (wrap64 (x8_2 + 1)) a1_0 a1_1 a1_2 l1_3 t388 t389 t390 t391) = some r := by rw [if_pos rfl] at H; exact H
                      clear H
                      have H := H1
                      clear H1
                      have H' := Aside0.mk H
                      clear H
                      try go_wp2
                      have n0_ := Aside0.mk (Kd.V_drew HO_0.out)
                      have n1_ := Aside0.mk (Kd.V_drew HO_383003.out)
                      have n2_ := Aside0.mk (Kd.R_drew HO_396003.out)
                      have n3_ := Aside0.mk (blk_drew BK382.out)
                      have n4_ := Aside0.mk (blk_drew BK395.out)
                      have n5_ := Aside0.mk (below_drew1 HB.out)
                      clear HO_0
                      clear HO_383003
                      clear HO_396003
                      clear BK382
                      clear BK395
                      clear HB
                      have HO_0 := n0_
                      have HO_383003 := n1_
                      have HO_396003 := n2_
                      have BK382 := n3_
                      have BK395 := n4_
                      have HB := n5_
                      clear n0_ n1_ n2_ n3_ n4_ n5_
                      refine start_ (n := 10) (S := fun w' => True) (ds := []) #[false, false, false, false, false, false, false, false, false, false] (by kernel_rfl) rfl rfl trivial (fun hHeld => ?_); refine with_tabW watchmanlaw23_LogBest.tab10 watchmanlaw23_LogBest.bits10 (fun HT_ HW_ => ?_)
                      generalize wc.drew = w39 at HO_0 HO_383003 HO_396003 BK382 BK395 HB hHeld ⊢
                      refine pure_ (i := 0) (N := some 69) (v := ?_) (a' := ?_) (dn_ 1 10) rfl rfl (any_of HT_.out (by kernel_rfl)) (fun _ _ _ h => h) (Or.inl ⟨by rfl, ?_⟩) ?_ ?_
                      rotate_left
                      · intro w'
                        go_simp
                        with_reducible rfl
                      rotate_left
                      · simp only [Act.put, List.setIfInBounds_toArray, List.set_cons_zero, List.set_cons_succ, i64_w, i32_w]
                        rfl
                      refine pure_ (i := 1) (N := some 70) (v := ?_) (a' := ?_) (dn_ 2 10) rfl rfl (any_of HT_.out (by kernel_rfl)) (fun _ _ _ h => h) (Or.inl ⟨by rfl, ?_⟩) ?_ ?_
                      rotate_left
                      · intro w'
                        go_simp
                        with_reducible rfl
                      rotate_left
                      · simp only [Act.put, List.setIfInBounds_toArray, List.set_cons_zero, List.set_cons_succ, i64_w, i32_w]
                        rfl
                      refine pure_ (i := 2) (N := some 71) (v := undef) (a' := ?_) (dn_ 3 10) rfl rfl (any_of HT_.out (by kernel_rfl)) (fun _ _ _ h => h) (Or.inr ⟨by rfl, rfl⟩) ?_ ?_
                      rotate_left
                      · simp only [Act.put, List.setIfInBounds_toArray, List.set_cons_zero, List.set_cons_succ, i64_w, i32_w]
                        rfl
                      refine pure_ (i := 3) (N := some 72) (v := undef) (a' := ?_) (dn_ 4 10) rfl rfl (any_of HT_.out (by kernel_rfl)) (fun _ _ _ h => h) (Or.inr ⟨by rfl, rfl⟩) ?_ ?_
                      rotate_left
                      · simp only [Act.put, List.setIfInBounds_toArray, List.set_cons_zero, List.set_cons_succ, i64_w, i32_w]
                        rfl
                      refine pure_ (i := 4) (N := some 73) (v := undef) (a' := ?_) (dn_ 5 10) rfl rfl (any_of HT_.out (by kernel_rfl)) (fun _ _ _ h => h) (Or.inr ⟨by rfl, rfl⟩) ?_ ?_
                      rotate_left
                      · simp only [Act.put, List.setIfInBounds_toArray, List.set_cons_zero, List.set_cons_succ, i64_w, i32_w]
                        rfl
                      refine pure_ (i := 5) (N := some 74) (v := undef) (a' := ?_) (dn_ 6 10) rfl rfl (any_of HT_.out (by kernel_rfl)) (fun _ _ _ h => h) (Or.inr ⟨by rfl, rfl⟩) ?_ ?_
                      rotate_left
                      · simp only [Act.put, List.setIfInBounds_toArray, List.set_cons_zero, List.set_cons_succ, i64_w, i32_w]
                        rfl
                      refine pure_ (i := 6) (N := some 75) (v := undef) (a' := ?_) (dn_ 7 10) rfl rfl (any_of HT_.out (by kernel_rfl)) (fun _ _ _ h => h) (Or.inr ⟨by rfl, rfl⟩) ?_ ?_
                      rotate_left
                      · simp only [Act.put, List.setIfInBounds_toArray, List.set_cons_zero, List.set_cons_succ, i64_w, i32_w]
                        rfl
                      refine pure_ (i := 7) (N := some 76) (v := undef) (a' := ?_) (dn_ 8 10) rfl rfl (any_of HT_.out (by kernel_rfl)) (fun _ _ _ h => h) (Or.inr ⟨by rfl, rfl⟩) ?_ ?_
                      rotate_left
                      · simp only [Act.put, List.setIfInBounds_toArray, List.set_cons_zero, List.set_cons_succ, i64_w, i32_w]
                        rfl
                      refine pure_ (i := 8) (N := some 77) (v := ?_) (a' := ?_) (dn_ 9 10) rfl rfl (any_of HT_.out (by kernel_rfl)) (fun _ _ _ h => h) (Or.inl ⟨by rfl, ?_⟩) ?_ ?_
                      rotate_left
                      · intro w'
                        go_simp
                        with_reducible rfl
                      rotate_left
                      · simp only [Act.put, List.setIfInBounds_toArray, List.set_cons_zero, List.set_cons_succ, i64_w, i32_w]
                        rfl
                      refine pure_ (i := 9) (N := some 7) (v := ?_) (a' := ?_) #[true, true, true, true, true, true, true, true, true, true] rfl rfl (any_of HT_.out (by kernel_rfl)) (fun _ _ _ h => h) (Or.inl ⟨by rfl, ?_⟩) ?_ ?_
                      rotate_left
                      · intro w'
                        go_simp
                        with_reducible rfl
                      rotate_left
                      · simp only [Act.put, List.setIfInBounds_toArray, List.set_cons_zero, List.set_cons_succ, i64_w, i32_w]
                        rfl
                      refine done_ (done_of HT_.out (by kernel_rfl)) ?_
                      try go_wp2
                      go_roundg kj29
                      case measure => have := HJ2.out; have := HK2.out; have := HJ29.out; omega
                      case rel => exact ⟨(true), (wrap64 (x8_2 + 1)), (by first | rfl | (simp; done) | (simp [*]; done)), (by first | rfl | (simp; done) | (simp [*]; done)), H', ⟨by have := HJ2.out; have := HK2.out; have := HJ29.out; omega⟩, ⟨by (with_reducible repeat (first | apply Kd.V_alloc | apply Kd.V_drewN | apply Kd.V_drew)); exact HO_0.out⟩, ⟨by (with_reducible repeat (first | apply Kd.V_alloc | apply Kd.V_drewN | apply Kd.V_drew)); exact HO_383003.out⟩, ⟨by (with_reducible repeat (first | apply Kd.R_alloc | apply Kd.R_drewN | apply Kd.R_drew)); exact HO_396003.out⟩, ⟨by (with_reducible repeat (first | refine blk_drewN ?_ _ | refine blk_drew ?_ | refine blk_alloc ?_ _)); exact BK382.out⟩, ⟨by (with_reducible repeat (first | refine blk_drewN ?_ _ | refine blk_drew ?_ | refine blk_alloc ?_ _)); exact BK395.out⟩, ⟨by repeat (first | (with_reducible first | exact HB.out | apply below_alloc | apply pw_below_drewN | apply below_drew1 | refine below_set ?_ GE382.out | refine below_set ?_ GE395.out) | exact HB.out)⟩⟩
                    · replace c38 := Bool.eq_false_iff.mpr c38
                      subst c38
                      have H1 : (if 0 ≤ x8_2 then (if x8_2 < (l0.length : Int) then ((watchmanref23_SameVote.f kj29 ((rd_T36 l0 x8_2).f0) ((rd_T36 l0 x8_2).f1) ((rd_T36 l0 x8_2).f2) ((rd_T36 l0 x8_2).f3) t388 t389 t390 t391).bind fun t400 => (watchmanlaw23_LogBest.l0 kj29 l0 t394 t400 (wrap64 (x8_2 + 1)) a1_0 a1_1 a1_2 l1_3 t388 t389 t390 t391)) else (none)) else (none)) = some r := by rw [if_neg (show ¬ (false = true) by decide)] at H; exact H
                      clear H
                      have H := H1
                      clear H1
                      by_cases c40 : 0 ≤ x8_2
                      · rw [if_pos c40] at H
                        have c40b0 : decide (0 ≤ x8_2) = true := decide_eq_true c40
                        clear c40
                        by_cases c41 : x8_2 < (l0.length : Int)
                        · rw [if_pos c41] at H
                          have c41b0 : decide (x8_2 < (l0.length : Int)) = true := decide_eq_true c41
                          clear c41
                          replace H := Option.bind_eq_some_iff.mp H
                          obtain ⟨t400, A420, H⟩ := H
                          replace H : (watchmanlaw23_LogBest.l0 kj29 l0 t394 t400 (wrap64 (x8_2 + 1)) a1_0 a1_1 a1_2 l1_3 t388 t389 t390 t391) = some r := H
                          have A42 := Aside0.mk A420
                          clear A420
                          have H' := Aside0.mk H
                          clear H
                          try go_wp2
                          have n0_ := Aside0.mk (Kd.V_drew HO_0.out)
                          have n1_ := Aside0.mk (Kd.V_drew HO_383003.out)
                          have n2_ := Aside0.mk (Kd.R_drew HO_396003.out)
                          have n3_ := Aside0.mk (blk_drew BK382.out)
                          have n4_ := Aside0.mk (blk_drew BK395.out)
                          have n5_ := Aside0.mk (below_drew1 HB.out)
                          clear HO_0
                          clear HO_383003
                          clear HO_396003
                          clear BK382
                          clear BK395
                          clear HB
                          have HO_0 := n0_
                          have HO_383003 := n1_
                          have HO_396003 := n2_
                          have BK382 := n3_
                          have BK395 := n4_
                          have HB := n5_
                          clear n0_ n1_ n2_ n3_ n4_ n5_
                          have p399 : 0 ≤ (x8_2 : Int) := of_decide_eq_true (by first | (with_reducible assumption) | assumption)
                          have q399 : x8_2 < (l0.length : Int) := of_decide_eq_true (by first | (with_reducible assumption) | assumption)
                          obtain ⟨ad399, A399_3, c399_3, e399, hx399_0, hx399_1, hx399_2, hx399_3, hl399_3, hi399_3⟩ := at_T36 (Kd.V_reads' HO_0.out).2.2 x8_2 p399 q399
                          cases e399
                          obtain ⟨ce399, hce399, hMe399, hcc399⟩ := Kd.V_get HO_0.out z36 x8_2 p399 (by first | exact q399 | exact of_decide_eq_true (by first | (with_reducible assumption) | assumption) | (have e_ := (Kd.V_reads' HO_0.out).1; omega))
                          obtain ⟨ua399_3, uc399_3, rfl, ul399_3, ge399_3⟩ := k36_openF hMe399
                          have hv399_3 := hcc399 3 _ rfl
                          rw [add_field _ _ 3 (by omega)] at hv399_3
                          replace hv399_3 := Option.some.inj (hv399_3.symm.trans hx399_3)
                          injection hv399_3 with hva_ hvn_ hvc_
                          rw [hva_] at ge399_3
                          rw [hvc_] at ul399_3
                          have HL399_3 := Aside0.mk (show Kd.V Kd.string 9 _ w.heap.size _ _ ((rd_T36 l0 x8_2).f3) from Kd.V_mk ul399_3 ge399_3)
                          clear hva_ hvn_ hvc_ ge399_3 ul399_3
                          clear hcc399 hce399
                          have HR399_3 := Aside0.mk hi399_3
                          have HC399_3 := Aside0.mk hl399_3
                          clear hi399_3 hl399_3
                          replace p399 := eq_true p399
                          replace q399 := eq_true q399
                          refine start_ (n := 10) (S := fun w' => w'.cell? ⟨gb395, 0, none⟩ = some (.int .i64 t388) ∧ w'.cell? ⟨gb395, 1, none⟩ = some (.int .i64 t389) ∧ w'.cell? ⟨gb395, 2, none⟩ = some (.int .i64 t390) ∧ w'.cell? ⟨gb395, 3, none⟩ = some (.slice Ao28 t391.length co28) ∧ w'.cell? (ad399.add ((x8_2).toNat * 4)) = some (.int .i64 ((rd_T36 l0 x8_2).f0)) ∧ w'.cell? ⟨(ad399.add ((x8_2).toNat * 4)).block, (ad399.add ((x8_2).toNat * 4)).off + 1, none⟩ = some (.int .i64 ((rd_T36 l0 x8_2).f1)) ∧ w'.cell? ⟨(ad399.add ((x8_2).toNat * 4)).block, (ad399.add ((x8_2).toNat * 4)).off + 2, none⟩ = some (.int .i64 ((rd_T36 l0 x8_2).f2)) ∧ w'.cell? ⟨(ad399.add ((x8_2).toNat * 4)).block, (ad399.add ((x8_2).toNat * 4)).off + 3, none⟩ = some (.slice A399_3 ((rd_T36 l0 x8_2).f3).length c399_3)) (ds := []) #[false, false, false, false, false, false, false, false, false, false] (by kernel_rfl) rfl rfl ⟨(blk_cell BK395.out 0).trans rfl, (blk_cell BK395.out 1).trans rfl, (blk_cell BK395.out 2).trans rfl, (blk_cell BK395.out 3).trans rfl, hx399_0, hx399_1, hx399_2, hx399_3⟩ (fun hHeld => ?_); refine with_tabW watchmanlaw23_LogBest.tab10 watchmanlaw23_LogBest.bits10 (fun HT_ HW_ => ?_)
                          generalize wc.drew = w43 at HO_0 HO_383003 HO_396003 BK382 BK395 HB HL399_3 HR399_3 hx399_0 hx399_1 hx399_2 hx399_3 hHeld ⊢
                          refine pure_ (i := 0) (N := some 69) (v := ?_) (a' := ?_) (dn_ 1 10) rfl rfl (any_of HT_.out (by kernel_rfl)) (fun _ _ _ h => h) (Or.inl ⟨by rfl, ?_⟩) ?_ ?_
                          rotate_left
                          · intro w'
                            go_simp
                            with_reducible rfl
                          rotate_left
                          · simp only [Act.put, List.setIfInBounds_toArray, List.set_cons_zero, List.set_cons_succ, i64_w, i32_w]
                            rfl
                          refine pure_ (i := 1) (N := some 70) (v := ?_) (a' := ?_) (dn_ 2 10) rfl rfl (any_of HT_.out (by kernel_rfl)) (fun _ _ _ h => h) (Or.inl ⟨by rfl, ?_⟩) ?_ ?_
                          rotate_left
                          · intro w'
                            go_simp
                            with_reducible rfl
                          rotate_left
                          · simp only [Act.put, List.setIfInBounds_toArray, List.set_cons_zero, List.set_cons_succ, i64_w, i32_w]
                            rfl
                          refine pure_ (i := 2) (N := some 71) (v := ?_) (a' := ?_) (dn_ 3 10) rfl rfl (any_of HT_.out (by kernel_rfl)) (fun _ _ _ h => h) (Or.inl ⟨by rfl, ?_⟩) ?_ ?_
                          rotate_left
                          · intro w'
                            go_simp
                            with_reducible rfl
                          rotate_left
                          · simp only [Act.put, List.setIfInBounds_toArray, List.set_cons_zero, List.set_cons_succ, i64_w, i32_w]
                            rfl
                          refine pure_ (i := 3) (N := some 72) (v := ?_) (a' := ?_) (dn_ 4 10) rfl rfl (any_of HT_.out (by kernel_rfl)) (fun _ _ _ h => h) (Or.inl ⟨by rfl, ?_⟩) ?_ ?_
                          rotate_left
                          · intro w'
                            go_simp
                            with_reducible rfl
                          rotate_left
                          · simp only [Act.put, List.setIfInBounds_toArray, List.set_cons_zero, List.set_cons_succ, i64_w, i32_w]
                            rfl
                          refine pure_ (i := 4) (N := some 73) (v := ?_) (a' := ?_) (dn_ 5 10) rfl rfl (any_of HT_.out (by kernel_rfl)) (fun _ _ _ h => h) (Or.inl ⟨by rfl, ?_⟩) ?_ ?_
                          rotate_left
                          · intro w'
                            go_simp
                            with_reducible rfl
                          rotate_left
                          · simp only [Act.put, List.setIfInBounds_toArray, List.set_cons_zero, List.set_cons_succ, i64_w, i32_w]
                            rfl
                          refine take_ (i := 5) (N := some 74) (v := ?_) (a' := ?_) (dn_ 6 10) rfl rfl (take_ofW HT_.out HW_.out (by kernel_rfl)) (fun _ _ _ h => h) (Or.inl ⟨by rfl, ?_⟩) hHeld ?_ ?_
                          rotate_left
                          · rintro w' ⟨s0, s1, s2, s3, s4, s5, s6, s7⟩
                            go_simp
                            with_reducible rfl
                          rotate_left
                          · simp only [Act.put, List.setIfInBounds_toArray, List.set_cons_zero, List.set_cons_succ, i64_w, i32_w]
                            rfl
                          refine take_ (i := 6) (N := some 75) (v := ?_) (a' := ?_) (dn_ 7 10) rfl rfl (take_ofW HT_.out HW_.out (by kernel_rfl)) (fun _ _ _ h => h) (Or.inl ⟨by rfl, ?_⟩) hHeld ?_ ?_
                          rotate_left
                          · rintro w' ⟨s0, s1, s2, s3, s4, s5, s6, s7⟩
                            go_simp
                            with_reducible rfl
                          rotate_left
                          · simp only [Act.put, List.setIfInBounds_toArray, List.set_cons_zero, List.set_cons_succ, i64_w, i32_w]
                            rfl
                          refine one_ (i := 7) (N := some 76) (dn_ 8 10) rfl rfl (one_of HT_.out (by kernel_rfl)) (by decide) (fun K hK => ?_)
                          refine goes_ Try.func25 (by kernel_rfl) rfl #[.agg #[.int .i64 ((rd_T36 l0 x8_2).f0), .int .i64 ((rd_T36 l0 x8_2).f1), .int .i64 ((rd_T36 l0 x8_2).f2), .slice A399_3 ((rd_T36 l0 x8_2).f3).length c399_3], .agg #[.int .i64 t388, .int .i64 t389, .int .i64 t390, .slice Ao28 t391.length co28]] (by rfl) rfl rfl (by (try simp only [List.map_toArray, List.map_cons, List.map_nil]); first | done | rfl | (simp only [List.length_drop, List.length_take]; rfl)) ?_
                          with_reducible refine (watchmanref23_SameVote.calls kj29 ((rd_T36 l0 x8_2).f0) ((rd_T36 l0 x8_2).f1) ((rd_T36 l0 x8_2).f2) _ _ ((rd_T36 l0 x8_2).f3) t388 t389 t390 _ _ t391 t400 _ ?side1 ?side2 ?side3 ?side4 A42.out).mono ?_
                          (case side1 => repeat (first | exact (by repeat (first | (with_reducible exact HR399_3.out) | (with_reducible refine Kd.C_alloc ?_ _) | (with_reducible refine Kd.C_drewN ?_ _) | (with_reducible refine Kd.C_drew ?_) | exact HR399_3.out)) | (with_reducible refine Kd.C_alloc ?_ _) | (with_reducible refine Kd.C_drewN ?_ _) | (with_reducible refine Kd.C_drew ?_)))
                          (case side2 => exact HC399_3.out)
                          (case side3 => repeat (first | exact (Kd.R_reads' HO_396003.out).2.2 | (with_reducible refine Kd.C_alloc ?_ _) | (with_reducible refine Kd.C_drewN ?_ _) | (with_reducible refine Kd.C_drew ?_)))
                          (case side4 => exact (Kd.R_reads' HO_396003.out).2.1)
                          rintro e w44 ⟨rfl, hb⟩
                          have HS4_ := (hb.cell (World.block_lt_of_cell? _ _ (hHeld.2.2.2.2.1))).trans (hHeld.2.2.2.2.1)
                          have HS5_ := (hb.cell (World.block_lt_of_cell? _ _ (hHeld.2.2.2.2.2.1))).trans (hHeld.2.2.2.2.2.1)
                          have HS6_ := (hb.cell (World.block_lt_of_cell? _ _ (hHeld.2.2.2.2.2.2.1))).trans (hHeld.2.2.2.2.2.2.1)
                          have HS7_ := (hb.cell (World.block_lt_of_cell? _ _ (hHeld.2.2.2.2.2.2.2))).trans (hHeld.2.2.2.2.2.2.2)
                          refine ⟨_, rfl, ?_⟩
                          have n0_ := Aside0.mk (Kd.V_below (by (with_reducible repeat (first | apply Kd.V_alloc | apply Kd.V_drewN | apply Kd.V_drew)); exact HO_0.out) hb)
                          have n1_ := Aside0.mk (Kd.V_below (by (with_reducible repeat (first | apply Kd.V_alloc | apply Kd.V_drewN | apply Kd.V_drew)); exact HO_383003.out) hb)
                          have n2_ := Aside0.mk (Kd.R_below (by (with_reducible repeat (first | apply Kd.R_alloc | apply Kd.R_drewN | apply Kd.R_drew)); exact HO_396003.out) hb)
                          have n3_ := Aside0.mk (Kd.V_below (by (with_reducible repeat (first | apply Kd.V_alloc | apply Kd.V_drewN | apply Kd.V_drew)); exact HL399_3.out) hb)
                          have n4_ := Aside0.mk (blk_below (g := gb382) (o := .cells #[.int .i64 a1_0, .int .i64 a1_1, .int .i64 a1_2, .slice A1_3 l1_3.length c1_3] 36 (0, 0)) (by (with_reducible repeat (first | refine blk_drewN ?_ _ | refine blk_drew ?_ | refine blk_alloc ?_ _)); exact BK382.out) hb)
                          have n5_ := Aside0.mk (blk_below (g := gb395) (o := .cells #[.int .i64 t388, .int .i64 t389, .int .i64 t390, .slice Ao28 t391.length co28] 36 (0, 0)) (by (with_reducible repeat (first | refine blk_drewN ?_ _ | refine blk_drew ?_ | refine blk_alloc ?_ _)); exact BK395.out) hb)
                          have n6_ := Aside0.mk (Kd.C_below (by repeat (first | (with_reducible exact HR399_3.out) | (with_reducible refine Kd.C_alloc ?_ _) | (with_reducible refine Kd.C_drewN ?_ _) | (with_reducible refine Kd.C_drew ?_) | exact HR399_3.out)) hb)
                          have n7_ := Aside0.mk (below_step (by repeat (first | (with_reducible first | exact HB.out | apply below_alloc | apply pw_below_drewN | apply below_drew1 | refine below_set ?_ GE382.out | refine below_set ?_ GE395.out) | exact HB.out)) hb)
                          clear HO_0
                          clear HO_383003
                          clear HO_396003
                          clear HL399_3
                          clear BK382
                          clear BK395
                          clear HR399_3
                          clear HB
                          have HO_0 := n0_
                          have HO_383003 := n1_
                          have HO_396003 := n2_
                          have HL399_3 := n3_
                          have BK382 := n4_
                          have BK395 := n5_
                          have HR399_3 := n6_
                          have HB := n7_
                          clear n0_ n1_ n2_ n3_ n4_ n5_ n6_ n7_
                          (try clear hb)
                          (try clear hb2)
                          (try clear hk)
                          (try clear hi)
                          refine hK.out _ _ ⟨(blk_cell BK395.out 0).trans rfl, (blk_cell BK395.out 1).trans rfl, (blk_cell BK395.out 2).trans rfl, (blk_cell BK395.out 3).trans rfl, HS4_, HS5_, HS6_, HS7_⟩ (fun hHeld => ?_)
                          clear hK K
                          refine norm_ (a' := ?_) ?_ ?_
                          rotate_left
                          · show Act.put _ (some 76) _ = _
                            simp only [Act.put, List.setIfInBounds_toArray, List.set_cons_zero, List.set_cons_succ, i64_w, i32_w]
                            rfl
                          refine pure_ (i := 8) (N := some 77) (v := ?_) (a' := ?_) (dn_ 9 10) rfl rfl (any_of HT_.out (by kernel_rfl)) (fun _ _ _ h => h) (Or.inl ⟨by rfl, ?_⟩) ?_ ?_
                          rotate_left
                          · intro w'
                            go_simp
                            with_reducible rfl
                          rotate_left
                          · simp only [Act.put, List.setIfInBounds_toArray, List.set_cons_zero, List.set_cons_succ, i64_w, i32_w]
                            rfl
                          refine pure_ (i := 9) (N := some 7) (v := ?_) (a' := ?_) #[true, true, true, true, true, true, true, true, true, true] rfl rfl (any_of HT_.out (by kernel_rfl)) (fun _ _ _ h => h) (Or.inl ⟨by rfl, ?_⟩) ?_ ?_
                          rotate_left
                          · intro w'
                            go_simp
                            with_reducible rfl
                          rotate_left
                          · simp only [Act.put, List.setIfInBounds_toArray, List.set_cons_zero, List.set_cons_succ, i64_w, i32_w]
                            rfl
                          refine done_ (done_of HT_.out (by kernel_rfl)) ?_
                          try go_wp2
                          go_roundg kj29
                          case measure => have := HJ2.out; have := HK2.out; have := HJ29.out; omega
                          case rel => exact ⟨(t400), (wrap64 (x8_2 + 1)), (by first | rfl | (simp; done) | (simp [*]; done)), (by first | rfl | (simp; done) | (simp [*]; done)), H', ⟨by have := HJ2.out; have := HK2.out; have := HJ29.out; omega⟩, ⟨by (with_reducible repeat (first | apply Kd.V_alloc | apply Kd.V_drewN | apply Kd.V_drew)); exact HO_0.out⟩, ⟨by (with_reducible repeat (first | apply Kd.V_alloc | apply Kd.V_drewN | apply Kd.V_drew)); exact HO_383003.out⟩, ⟨by (with_reducible repeat (first | apply Kd.R_alloc | apply Kd.R_drewN | apply Kd.R_drew)); exact HO_396003.out⟩, ⟨by (with_reducible repeat (first | refine blk_drewN ?_ _ | refine blk_drew ?_ | refine blk_alloc ?_ _)); exact BK382.out⟩, ⟨by (with_reducible repeat (first | refine blk_drewN ?_ _ | refine blk_drew ?_ | refine blk_alloc ?_ _)); exact BK395.out⟩, ⟨by repeat (first | (with_reducible first | exact HB.out | apply below_alloc | apply pw_below_drewN | apply below_drew1 | refine below_set ?_ GE382.out | refine below_set ?_ GE395.out) | exact HB.out)⟩⟩
                        · rw [if_neg c41] at H
                          exact absurd H (by simp)
                      · rw [if_neg c40] at H
                        exact absurd H (by simp)
            · rw [if_neg c29] at H
              have c29b0 : decide (x8_2 < (l0.length : Int)) = false := decide_eq_false c29
              clear c29
              replace H := Option.bind_eq_some_iff.mp H
              obtain ⟨t401, A450, H⟩ := H
              replace H : (watchmanlaw23_LogBest.l1 k2 l0 t394 x7_2 t401 0 0 a1_0 a1_1 a1_2 l1_3 t388 t389 t390 t391) = some r := H
              have A45 := Aside0.mk A450
              clear A450
              have H' := Aside0.mk H
              clear H
              have hnb46 := NB382_395.out
              have hnc46 := NB395_382.out
              have hcz47_0 : wr.cell? ⟨gb382, 0, none⟩ = some (.int .i64 a1_0) := (blk_cell BK382.out 0).trans rfl
              have hcz47_1 : wr.cell? ⟨gb382, 1, none⟩ = some (.int .i64 a1_1) := (blk_cell BK382.out 1).trans rfl
              have hcz47_2 : wr.cell? ⟨gb382, 2, none⟩ = some (.int .i64 a1_2) := (blk_cell BK382.out 2).trans rfl
              have hcz47_3 : wr.cell? ⟨gb382, 3, none⟩ = some (.slice A1_3 l1_3.length c1_3) := (blk_cell BK382.out 3).trans rfl
              have hfz47_0 := blk_frozen BK382.out 0
              have hfz47_1 := blk_frozen BK382.out 1
              have hfz47_2 := blk_frozen BK382.out 2
              have hfz47_3 := blk_frozen BK382.out 3
              go_wp2_with (first | ((with_reducible refine gate_callee (f := 23) rfl ?_); refine goesL_ (some 80) rfl rfl Try.func23 (by kernel_rfl) rfl #[.slice A0 l0.length c0, .agg #[.int .i64 a1_0, .int .i64 a1_1, .int .i64 a1_2, .slice A1_3 l1_3.length c1_3]] rfl (by (try simp only [List.map_toArray, List.map_cons, List.map_nil]); first | done | rfl | (simp only [List.length_drop, List.length_take]; rfl)) ?_; (with_reducible refine (log_With.calls k2 _ _ l0 a1_0 a1_1 a1_2 _ _ l1_3 t401 _ ?side1 ?side2 ?side3 ?side4 A45.out).mono ?_); (case side1 => repeat (first | exact (Kd.V_reads' HO_0.out).2.2 | (with_reducible refine Kd.C_alloc ?_ _) | (with_reducible refine Kd.C_drewN ?_ _) | (with_reducible refine Kd.C_drew ?_))); (case side2 => exact (Kd.V_reads' HO_0.out).2.1); (case side3 => repeat (first | exact (Kd.V_reads' HO_383003.out).2.2 | (with_reducible refine Kd.C_alloc ?_ _) | (with_reducible refine Kd.C_drewN ?_ _) | (with_reducible refine Kd.C_drew ?_))); (case side4 => exact (Kd.V_reads' HO_383003.out).2.1); rintro e w48 ⟨v402, rfl, ho0, hb⟩; refine ⟨_, rfl, ?_⟩; have n0_ := Aside0.mk (Kd.V_elder' (by (with_reducible repeat (first | apply Kd.V_alloc | apply Kd.V_drewN | apply Kd.V_drew)); exact HO_0.out) (Kd.N_base (Kd.S_N ho0)) hb); have n1_ := Aside0.mk (Kd.V_elder' (by (with_reducible repeat (first | apply Kd.V_alloc | apply Kd.V_drewN | apply Kd.V_drew)); exact HO_383003.out) (Kd.N_base (Kd.S_N ho0)) hb); have n2_ := Aside0.mk (Kd.R_below (by (with_reducible repeat (first | apply Kd.R_alloc | apply Kd.R_drewN | apply Kd.R_drew)); exact HO_396003.out) hb); have n3_ := Aside0.mk (Kd.N_lower (Kd.N_mono (ok' := fun k_ => ((P0_ k_ ∨ P1_3_ k_) ∨ w.heap.size ≤ k_) ∧ some k_ ≠ (.slice Ao28 t391.length co28 : Value).ownBlock ∧ k_ ≠ gb382 ∧ k_ ≠ gb395) (Kd.S_N (Kd.S_bound ho0)) (fun k_ hk_ => ⟨(.inr (Nat.le_trans (below_size (by repeat (first | (with_reducible first | exact HB.out | apply below_alloc | apply pw_below_drewN | apply below_drew1 | refine below_set ?_ GE382.out | refine below_set ?_ GE395.out) | exact HB.out))) hk_.2.1)), (Kd.fresh' (Kd.R_lt (by (with_reducible repeat (first | apply Kd.R_alloc | apply Kd.R_drewN | apply Kd.R_drew)); exact HO_396003.out)) k_ hk_.2.1), (Kd.freshB (g := gb382) (o := .cells #[.int .i64 a1_0, .int .i64 a1_1, .int .i64 a1_2, .slice A1_3 l1_3.length c1_3] 36 (0, 0)) (by (with_reducible repeat (first | refine blk_drewN ?_ _ | refine blk_drew ?_ | refine blk_alloc ?_ _)); exact BK382.out) k_ hk_.2.1), (Kd.freshB (g := gb395) (o := .cells #[.int .i64 t388, .int .i64 t389, .int .i64 t390, .slice Ao28 t391.length co28] 36 (0, 0)) (by (with_reducible repeat (first | refine blk_drewN ?_ _ | refine blk_drew ?_ | refine blk_alloc ?_ _)); exact BK395.out) k_ hk_.2.1)⟩)) (below_size (by repeat (first | (with_reducible first | exact HB.out | apply below_alloc | apply pw_below_drewN | apply below_drew1 | refine below_set ?_ GE382.out | refine below_set ?_ GE395.out) | exact HB.out)))); have n4_ := Aside0.mk (blk_below (g := gb382) (o := .cells #[.int .i64 a1_0, .int .i64 a1_1, .int .i64 a1_2, .slice A1_3 l1_3.length c1_3] 36 (0, 0)) (by (with_reducible repeat (first | refine blk_drewN ?_ _ | refine blk_drew ?_ | refine blk_alloc ?_ _)); exact BK382.out) hb); have n5_ := Aside0.mk (blk_below (g := gb395) (o := .cells #[.int .i64 t388, .int .i64 t389, .int .i64 t390, .slice Ao28 t391.length co28] 36 (0, 0)) (by (with_reducible repeat (first | refine blk_drewN ?_ _ | refine blk_drew ?_ | refine blk_alloc ?_ _)); exact BK395.out) hb); have n6_ := Aside0.mk (below_step (by repeat (first | (with_reducible first | exact HB.out | apply below_alloc | apply pw_below_drewN | apply below_drew1 | refine below_set ?_ GE382.out | refine below_set ?_ GE395.out) | exact HB.out)) hb); clear HO_0; clear HO_383003; clear HO_396003; clear BK382; clear BK395; clear HB; have HO_0 := n0_; have HO_383003 := n1_; have HO_396003 := n2_; have HO403 := n3_; have BK382 := n4_; have BK395 := n5_; have HB := n6_; clear n0_ n1_ n2_ n3_ n4_ n5_ n6_; (try clear hb); (try clear hb2); (try clear hk); (try clear hi); (try clear ho0)))
              go_loopg [10, 11] k2 (fun kq v10 v11 w' => ∃ (x10_3 : Int) (x11_3 : Int), v10 = .int .i64 x10_3 ∧ v11 = .int .i64 x11_3 ∧ Aside0 (watchmanlaw23_LogBest.l1 kq l0 t394 x7_2 t401 x10_3 x11_3 a1_0 a1_1 a1_2 l1_3 t388 t389 t390 t391 = some r) ∧ Aside0 (kq ≤ k2) ∧ Aside0 (Kd.V k36 36 w' w.heap.size (fun k_ => ((P0_ k_ ∨ P1_3_ k_) ∨ w.heap.size ≤ k_) ∧ some k_ ≠ (v402 : Value).ownBlock ∧ some k_ ≠ ((.slice Ao28 t391.length co28) : Value).ownBlock ∧ k_ ≠ gb382 ∧ k_ ≠ gb395) (.slice A0 l0.length c0) l0) ∧ Aside0 (Kd.N k36 36 w' w.heap.size (fun k_ => ((P0_ k_ ∨ P1_3_ k_) ∨ w.heap.size ≤ k_) ∧ some k_ ≠ ((.slice Ao28 t391.length co28) : Value).ownBlock ∧ k_ ≠ gb382 ∧ k_ ≠ gb395) v402 t401) ∧ Aside0 (Kd.V Kd.string 9 w' w.heap.size (fun k_ => ((P0_ k_ ∨ P1_3_ k_) ∨ w.heap.size ≤ k_) ∧ some k_ ≠ (v402 : Value).ownBlock ∧ some k_ ≠ ((.slice Ao28 t391.length co28) : Value).ownBlock ∧ k_ ≠ gb382 ∧ k_ ≠ gb395) (.slice A1_3 l1_3.length c1_3) l1_3) ∧ Aside0 (Kd.R Kd.string 9 w' w.heap.size (fun k_ => (w.heap.size ≤ k_)) (.slice Ao28 t391.length co28) t391) ∧ Aside0 (w'.heap[gb382]? = some (.cells #[.int .i64 a1_0, .int .i64 a1_1, .int .i64 a1_2, (.slice A1_3 l1_3.length c1_3)] 36 (0, 0))) ∧ Aside0 (w'.heap[gb395]? = some (.cells #[.int .i64 t388, .int .i64 t389, .int .i64 t390, (.slice Ao28 t391.length co28)] 36 (0, 0))) ∧ Aside0 (Below w.heap.size w w'))
              case atStart => exact ⟨(0), (0), (by first | rfl | (simp; done) | (simp [*]; done)), (by first | rfl | (simp; done) | (simp [*]; done)), H', ⟨Nat.le_refl _⟩, ⟨by (with_reducible repeat (first | apply Kd.V_alloc | apply Kd.V_drewN | apply Kd.V_drew)); exact Kd.V_mono HO_0.out (fun _ hk => ⟨hk.1.1, ⟨hk.2, ⟨hk.1.2.1, ⟨hk.1.2.2.1, hk.1.2.2.2⟩⟩⟩⟩)⟩, ⟨by (with_reducible repeat (first | apply Kd.N_alloc | apply Kd.N_drewN | apply Kd.N_drew)); exact HO403.out⟩, ⟨by (with_reducible repeat (first | apply Kd.V_alloc | apply Kd.V_drewN | apply Kd.V_drew)); exact Kd.V_mono HO_383003.out (fun _ hk => ⟨hk.1.1, ⟨hk.2, ⟨hk.1.2.1, ⟨hk.1.2.2.1, hk.1.2.2.2⟩⟩⟩⟩)⟩, ⟨by (with_reducible repeat (first | apply Kd.R_alloc | apply Kd.R_drewN | apply Kd.R_drew)); exact HO_396003.out⟩, ⟨by (with_reducible repeat (first | refine blk_drewN ?_ _ | refine blk_drew ?_ | refine blk_alloc ?_ _)); exact BK382.out⟩, ⟨by (with_reducible repeat (first | refine blk_drewN ?_ _ | refine blk_drew ?_ | refine blk_alloc ?_ _)); exact BK395.out⟩, ⟨by repeat (first | (with_reducible first | exact HB.out | apply below_alloc | apply pw_below_drewN | apply below_drew1 | refine below_set ?_ GE382.out | refine below_set ?_ GE395.out) | exact HB.out)⟩⟩
              case round =>
                clear H'
                try clear c1
                try clear c2
                try clear p2
                try clear c3
                try clear p3
                try clear q3
                try clear hx3
                try clear c4
                try clear p6
                try clear c23
                try clear c25
                try clear c29
                try clear c29b0
                try clear c31
                try clear c34
                try clear c34b0
                try clear c34b1
                try clear c37
                try clear c38
                try clear c39
                try clear p39
                try clear q39
                try clear hx39
                try clear c40
                try clear c40b0
                try clear c41
                try clear c41b0
                try clear c46
                try clear hcz47_0
                try clear hcz47_1
                try clear hcz47_2
                try clear hcz47_3
                try clear hfz47_0
                try clear hfz47_1
                try clear hfz47_2
                try clear hfz47_3
                try clear hx396_0
                try clear hx396_1
                try clear hx396_2
                try clear hx396_3
                try clear hx397_0
                try clear hx397_1
                try clear hx397_2
                try clear hx397_3
                try clear hx398_0
                try clear hx398_1
                try clear hx398_2
                try clear hx398_3
                try clear hx399_0
                try clear hx399_1
                try clear hx399_2
                try clear hx399_3
                try clear p2
                try clear p3
                try clear p396
                try clear p397
                try clear p398
                try clear p399
                try clear q3
                try clear q396
                try clear q397
                try clear q398
                try clear q399
                obtain ⟨x10_3, x11_3, rfl, rfl, HA, HK3, HO_0, HO_9, HO_383003, HO_396003, BK382, BK395, HB⟩ := hrel
                cases gk with
                | zero => exact absurd HA.out (by simp [watchmanlaw23_LogBest.l1])
                | succ k3 =>
                  have H := HA.out
                  clear HA
                  simp only [watchmanlaw23_LogBest.l1] at H
                  by_cases c49 : x11_3 < (t401.length : Int)
                  · rw [if_pos c49] at H
                    have c49b0 : decide (x11_3 < (t401.length : Int)) = true := decide_eq_true c49
                    clear c49
                    by_cases c50 : 0 ≤ x11_3
                    · rw [if_pos c50] at H
                      have c50b0 : decide (0 ≤ x11_3) = true := decide_eq_true c50
                      clear c50
                      by_cases c51 : ((rd_T36 t401 x11_3).f0) = a1_0
                      · rw [if_pos c51] at H
                        have c51b0 : (((rd_T36 t401 x11_3).f0) == a1_0) = true := beq_iff_eq.mpr c51
                        have c51b1 : (((rd_T36 t401 x11_3).f0) != a1_0) = false := bne_eq_false_iff_eq.mpr c51
                        clear c51
                        have H' := Aside0.mk H
                        clear H
                        obtain ⟨Ao52, co52, eo52⟩ := Kd.N_slice HO_9.out
                        subst eo52
                        try go_wp2
                        have n0_ := Aside0.mk (Kd.V_drew HO_0.out)
                        have n1_ := Aside0.mk (Kd.N_drew HO_9.out)
                        have n2_ := Aside0.mk (Kd.V_drew HO_383003.out)
                        have n3_ := Aside0.mk (Kd.R_drew HO_396003.out)
                        have n4_ := Aside0.mk (blk_drew BK382.out)
                        have n5_ := Aside0.mk (blk_drew BK395.out)
                        have n6_ := Aside0.mk (below_drew1 HB.out)
                        clear HO_0
                        clear HO_9
                        clear HO_383003
                        clear HO_396003
                        clear BK382
                        clear BK395
                        clear HB
                        have HO_0 := n0_
                        have HO_9 := n1_
                        have HO_383003 := n2_
                        have HO_396003 := n3_
                        have BK382 := n4_
                        have BK395 := n5_
                        have HB := n6_
                        clear n0_ n1_ n2_ n3_ n4_ n5_ n6_
                        have p404 : 0 ≤ (x11_3 : Int) := of_decide_eq_true (by first | (with_reducible assumption) | assumption)
                        have q404 : x11_3 < (t401.length : Int) := of_decide_eq_true (by first | (with_reducible assumption) | assumption)
                        obtain ⟨ad404, A404_3, c404_3, e404, hx404_0, hx404_1, hx404_2, hx404_3, hl404_3, hi404_3⟩ := at_T36 (Kd.N_reads' HO_9.out).2.2 x11_3 p404 q404
                        cases e404
                        obtain ⟨ce404, hce404, hMe404, hcc404⟩ := Kd.N_get HO_9.out z36 x11_3 p404 (by first | exact q404 | exact of_decide_eq_true (by first | (with_reducible assumption) | assumption) | (have e_ := (Kd.N_reads' HO_9.out).1; omega))
                        obtain ⟨ua404_3, uc404_3, rfl, ul404_3, ge404_3⟩ := k36_openF hMe404
                        have hv404_3 := hcc404 3 _ rfl
                        rw [add_field _ _ 3 (by omega)] at hv404_3
                        replace hv404_3 := Option.some.inj (hv404_3.symm.trans hx404_3)
                        injection hv404_3 with hva_ hvn_ hvc_
                        rw [hva_] at ge404_3
                        rw [hvc_] at ul404_3
                        have HL404_3 := Aside0.mk (show Kd.V Kd.string 9 _ w.heap.size _ _ ((rd_T36 t401 x11_3).f3) from Kd.V_mk ul404_3 ge404_3)
                        clear hva_ hvn_ hvc_ ge404_3 ul404_3
                        clear hcc404 hce404
                        have HR404_3 := Aside0.mk hi404_3
                        have HC404_3 := Aside0.mk hl404_3
                        clear hi404_3 hl404_3
                        replace p404 := eq_true p404
                        replace q404 := eq_true q404
                        refine start_ (n := 8) (S := fun w' => w'.cell? ⟨gb382, 0, none⟩ = some (.int .i64 a1_0) ∧ w'.cell? ⟨gb382, 1, none⟩ = some (.int .i64 a1_1) ∧ w'.cell? ⟨gb382, 2, none⟩ = some (.int .i64 a1_2) ∧ w'.cell? ⟨gb382, 3, none⟩ = some (.slice A1_3 l1_3.length c1_3) ∧ w'.cell? (ad404.add ((x11_3).toNat * 4)) = some (.int .i64 ((rd_T36 t401 x11_3).f0)) ∧ w'.cell? ⟨(ad404.add ((x11_3).toNat * 4)).block, (ad404.add ((x11_3).toNat * 4)).off + 1, none⟩ = some (.int .i64 ((rd_T36 t401 x11_3).f1)) ∧ w'.cell? ⟨(ad404.add ((x11_3).toNat * 4)).block, (ad404.add ((x11_3).toNat * 4)).off + 2, none⟩ = some (.int .i64 ((rd_T36 t401 x11_3).f2)) ∧ w'.cell? ⟨(ad404.add ((x11_3).toNat * 4)).block, (ad404.add ((x11_3).toNat * 4)).off + 3, none⟩ = some (.slice A404_3 ((rd_T36 t401 x11_3).f3).length c404_3)) (ds := []) #[false, false, false, false, false, false, false, false] (by kernel_rfl) rfl rfl ⟨(blk_cell BK382.out 0).trans rfl, (blk_cell BK382.out 1).trans rfl, (blk_cell BK382.out 2).trans rfl, (blk_cell BK382.out 3).trans rfl, hx404_0, hx404_1, hx404_2, hx404_3⟩ (fun hHeld => ?_); refine with_tabW watchmanlaw23_LogBest.tab16 watchmanlaw23_LogBest.bits16 (fun HT_ HW_ => ?_)
                        generalize wr.drew = w53 at HO_0 HO_9 HO_383003 HO_396003 BK382 BK395 HB HL404_3 HR404_3 hx404_0 hx404_1 hx404_2 hx404_3 hHeld ⊢
                        refine pure_ (i := 0) (N := some 87) (v := ?_) (a' := ?_) (dn_ 1 8) rfl rfl (any_of HT_.out (by kernel_rfl)) (fun _ _ _ h => h) (Or.inl ⟨by rfl, ?_⟩) ?_ ?_
                        rotate_left
                        · intro w'
                          go_simp
                          with_reducible rfl
                        rotate_left
                        · simp only [Act.put, List.setIfInBounds_toArray, List.set_cons_zero, List.set_cons_succ, i64_w, i32_w]
                          rfl
                        refine pure_ (i := 1) (N := some 88) (v := ?_) (a' := ?_) (dn_ 2 8) rfl rfl (any_of HT_.out (by kernel_rfl)) (fun _ _ _ h => h) (Or.inl ⟨by rfl, ?_⟩) ?_ ?_
                        rotate_left
                        · intro w'
                          go_simp
                          with_reducible rfl
                        rotate_left
                        · simp only [Act.put, List.setIfInBounds_toArray, List.set_cons_zero, List.set_cons_succ, i64_w, i32_w]
                          rfl
                        refine pure_ (i := 2) (N := some 89) (v := ?_) (a' := ?_) (dn_ 3 8) rfl rfl (any_of HT_.out (by kernel_rfl)) (fun _ _ _ h => h) (Or.inl ⟨by rfl, ?_⟩) ?_ ?_
                        rotate_left
                        · intro w'
                          go_simp
                          with_reducible rfl
                        rotate_left
                        · simp only [Act.put, List.setIfInBounds_toArray, List.set_cons_zero, List.set_cons_succ, i64_w, i32_w]
                          rfl
                        refine pure_ (i := 3) (N := some 90) (v := ?_) (a' := ?_) (dn_ 4 8) rfl rfl (any_of HT_.out (by kernel_rfl)) (fun _ _ _ h => h) (Or.inl ⟨by rfl, ?_⟩) ?_ ?_
                        rotate_left
                        · intro w'
                          go_simp
                          with_reducible rfl
                        rotate_left
                        · simp only [Act.put, List.setIfInBounds_toArray, List.set_cons_zero, List.set_cons_succ, i64_w, i32_w]
                          rfl
                        refine pure_ (i := 5) (N := some 92) (v := ?_) (a' := ?_) #[true, true, true, true, false, true, false, false] rfl rfl (any_of HT_.out (by kernel_rfl)) (fun _ _ _ h => h) (Or.inl ⟨by rfl, ?_⟩) ?_ ?_
                        rotate_left
                        · intro w'
                          go_simp
                          with_reducible rfl
                        rotate_left
                        · simp only [Act.put, List.setIfInBounds_toArray, List.set_cons_zero, List.set_cons_succ, i64_w, i32_w]
                          rfl
                        refine take_ (i := 4) (N := some 91) (v := ?_) (a' := ?_) (dn_ 6 8) rfl rfl (take_ofW HT_.out HW_.out (by kernel_rfl)) (fun _ _ _ h => h) (Or.inl ⟨by rfl, ?_⟩) hHeld ?_ ?_
                        rotate_left
                        · rintro w' ⟨s0, s1, s2, s3, s4, s5, s6, s7⟩
                          go_simp
                          with_reducible rfl
                        rotate_left
                        · simp only [Act.put, List.setIfInBounds_toArray, List.set_cons_zero, List.set_cons_succ, i64_w, i32_w]
                          rfl
                        refine take_ (i := 6) (N := some 93) (v := ?_) (a' := ?_) (dn_ 7 8) rfl rfl (take_ofW HT_.out HW_.out (by kernel_rfl)) (fun _ _ _ h => h) (Or.inl ⟨by rfl, ?_⟩) hHeld ?_ ?_
                        rotate_left
                        · rintro w' ⟨s0, s1, s2, s3, s4, s5, s6, s7⟩
                          go_simp
                          with_reducible rfl
                        rotate_left
                        · simp only [Act.put, List.setIfInBounds_toArray, List.set_cons_zero, List.set_cons_succ, i64_w, i32_w]
                          rfl
                        refine pure_ (i := 7) (N := some 94) (v := ?_) (a' := ?_) #[true, true, true, true, true, true, true, true] rfl rfl (any_of HT_.out (by kernel_rfl)) (fun _ _ _ h => h) (Or.inl ⟨by rfl, ?_⟩) ?_ ?_
                        rotate_left
                        · intro w'
                          go_simp
                          with_reducible rfl
                        rotate_left
                        · simp only [Act.put, List.setIfInBounds_toArray, List.set_cons_zero, List.set_cons_succ, i64_w, i32_w]
                          rfl
                        refine done_ (done_of HT_.out (by kernel_rfl)) ?_
                        try go_wp2
                        go_roundg k3
                        case measure => have := HJ2.out; have := HK2.out; have := HK3.out; omega
                        case rel => exact ⟨(wrap64 (x10_3 + 1)), (wrap64 (x11_3 + 1)), (by first | rfl | (simp; done) | (simp [*]; done)), (by first | rfl | (simp; done) | (simp [*]; done)), H', ⟨by have := HJ2.out; have := HK2.out; have := HK3.out; omega⟩, ⟨by (with_reducible repeat (first | apply Kd.V_alloc | apply Kd.V_drewN | apply Kd.V_drew)); exact HO_0.out⟩, ⟨by (with_reducible repeat (first | apply Kd.N_alloc | apply Kd.N_drewN | apply Kd.N_drew)); exact HO_9.out⟩, ⟨by (with_reducible repeat (first | apply Kd.V_alloc | apply Kd.V_drewN | apply Kd.V_drew)); exact HO_383003.out⟩, ⟨by (with_reducible repeat (first | apply Kd.R_alloc | apply Kd.R_drewN | apply Kd.R_drew)); exact HO_396003.out⟩, ⟨by (with_reducible repeat (first | refine blk_drewN ?_ _ | refine blk_drew ?_ | refine blk_alloc ?_ _)); exact BK382.out⟩, ⟨by (with_reducible repeat (first | refine blk_drewN ?_ _ | refine blk_drew ?_ | refine blk_alloc ?_ _)); exact BK395.out⟩, ⟨by repeat (first | (with_reducible first | exact HB.out | apply below_alloc | apply pw_below_drewN | apply below_drew1 | refine below_set ?_ GE382.out | refine below_set ?_ GE395.out) | exact HB.out)⟩⟩
                      · rw [if_neg c51] at H
                        have c51b0 : (((rd_T36 t401 x11_3).f0) == a1_0) = false := beq_eq_false_iff_ne.mpr c51
                        have c51b1 : (((rd_T36 t401 x11_3).f0) != a1_0) = true := bne_iff_ne.mpr c51
                        have H' := Aside0.mk H
                        clear H
                        obtain ⟨Ao54, co54, eo54⟩ := Kd.N_slice HO_9.out
                        subst eo54
                        try go_wp2
                        have n0_ := Aside0.mk (Kd.V_drew HO_0.out)
                        have n1_ := Aside0.mk (Kd.N_drew HO_9.out)
                        have n2_ := Aside0.mk (Kd.V_drew HO_383003.out)
                        have n3_ := Aside0.mk (Kd.R_drew HO_396003.out)
                        have n4_ := Aside0.mk (blk_drew BK382.out)
                        have n5_ := Aside0.mk (blk_drew BK395.out)
                        have n6_ := Aside0.mk (below_drew1 HB.out)
                        clear HO_0
                        clear HO_9
                        clear HO_383003
                        clear HO_396003
                        clear BK382
                        clear BK395
                        clear HB
                        have HO_0 := n0_
                        have HO_9 := n1_
                        have HO_383003 := n2_
                        have HO_396003 := n3_
                        have BK382 := n4_
                        have BK395 := n5_
                        have HB := n6_
                        clear n0_ n1_ n2_ n3_ n4_ n5_ n6_
                        have p404 : 0 ≤ (x11_3 : Int) := of_decide_eq_true (by first | (with_reducible assumption) | assumption)
                        have q404 : x11_3 < (t401.length : Int) := of_decide_eq_true (by first | (with_reducible assumption) | assumption)
                        obtain ⟨ad404, A404_3, c404_3, e404, hx404_0, hx404_1, hx404_2, hx404_3, hl404_3, hi404_3⟩ := at_T36 (Kd.N_reads' HO_9.out).2.2 x11_3 p404 q404
                        cases e404
                        obtain ⟨ce404, hce404, hMe404, hcc404⟩ := Kd.N_get HO_9.out z36 x11_3 p404 (by first | exact q404 | exact of_decide_eq_true (by first | (with_reducible assumption) | assumption) | (have e_ := (Kd.N_reads' HO_9.out).1; omega))
                        obtain ⟨ua404_3, uc404_3, rfl, ul404_3, ge404_3⟩ := k36_openF hMe404
                        have hv404_3 := hcc404 3 _ rfl
                        rw [add_field _ _ 3 (by omega)] at hv404_3
                        replace hv404_3 := Option.some.inj (hv404_3.symm.trans hx404_3)
                        injection hv404_3 with hva_ hvn_ hvc_
                        rw [hva_] at ge404_3
                        rw [hvc_] at ul404_3
                        have HL404_3 := Aside0.mk (show Kd.V Kd.string 9 _ w.heap.size _ _ ((rd_T36 t401 x11_3).f3) from Kd.V_mk ul404_3 ge404_3)
                        clear hva_ hvn_ hvc_ ge404_3 ul404_3
                        clear hcc404 hce404
                        have HR404_3 := Aside0.mk hi404_3
                        have HC404_3 := Aside0.mk hl404_3
                        clear hi404_3 hl404_3
                        replace p404 := eq_true p404
                        replace q404 := eq_true q404
                        refine start_ (n := 8) (S := fun w' => w'.cell? ⟨gb382, 0, none⟩ = some (.int .i64 a1_0) ∧ w'.cell? ⟨gb382, 1, none⟩ = some (.int .i64 a1_1) ∧ w'.cell? ⟨gb382, 2, none⟩ = some (.int .i64 a1_2) ∧ w'.cell? ⟨gb382, 3, none⟩ = some (.slice A1_3 l1_3.length c1_3) ∧ w'.cell? (ad404.add ((x11_3).toNat * 4)) = some (.int .i64 ((rd_T36 t401 x11_3).f0)) ∧ w'.cell? ⟨(ad404.add ((x11_3).toNat * 4)).block, (ad404.add ((x11_3).toNat * 4)).off + 1, none⟩ = some (.int .i64 ((rd_T36 t401 x11_3).f1)) ∧ w'.cell? ⟨(ad404.add ((x11_3).toNat * 4)).block, (ad404.add ((x11_3).toNat * 4)).off + 2, none⟩ = some (.int .i64 ((rd_T36 t401 x11_3).f2)) ∧ w'.cell? ⟨(ad404.add ((x11_3).toNat * 4)).block, (ad404.add ((x11_3).toNat * 4)).off + 3, none⟩ = some (.slice A404_3 ((rd_T36 t401 x11_3).f3).length c404_3)) (ds := []) #[false, false, false, false, false, false, false, false] (by kernel_rfl) rfl rfl ⟨(blk_cell BK382.out 0).trans rfl, (blk_cell BK382.out 1).trans rfl, (blk_cell BK382.out 2).trans rfl, (blk_cell BK382.out 3).trans rfl, hx404_0, hx404_1, hx404_2, hx404_3⟩ (fun hHeld => ?_); refine with_tabW watchmanlaw23_LogBest.tab16 watchmanlaw23_LogBest.bits16 (fun HT_ HW_ => ?_)
                        generalize wr.drew = w55 at HO_0 HO_9 HO_383003 HO_396003 BK382 BK395 HB HL404_3 HR404_3 hx404_0 hx404_1 hx404_2 hx404_3 hHeld ⊢
                        refine pure_ (i := 0) (N := some 87) (v := ?_) (a' := ?_) (dn_ 1 8) rfl rfl (any_of HT_.out (by kernel_rfl)) (fun _ _ _ h => h) (Or.inl ⟨by rfl, ?_⟩) ?_ ?_
                        rotate_left
                        · intro w'
                          go_simp
                          with_reducible rfl
                        rotate_left
                        · simp only [Act.put, List.setIfInBounds_toArray, List.set_cons_zero, List.set_cons_succ, i64_w, i32_w]
                          rfl
                        refine pure_ (i := 1) (N := some 88) (v := ?_) (a' := ?_) (dn_ 2 8) rfl rfl (any_of HT_.out (by kernel_rfl)) (fun _ _ _ h => h) (Or.inl ⟨by rfl, ?_⟩) ?_ ?_
                        rotate_left
                        · intro w'
                          go_simp
                          with_reducible rfl
                        rotate_left
                        · simp only [Act.put, List.setIfInBounds_toArray, List.set_cons_zero, List.set_cons_succ, i64_w, i32_w]
                          rfl
                        refine pure_ (i := 2) (N := some 89) (v := ?_) (a' := ?_) (dn_ 3 8) rfl rfl (any_of HT_.out (by kernel_rfl)) (fun _ _ _ h => h) (Or.inl ⟨by rfl, ?_⟩) ?_ ?_
                        rotate_left
                        · intro w'
                          go_simp
                          with_reducible rfl
                        rotate_left
                        · simp only [Act.put, List.setIfInBounds_toArray, List.set_cons_zero, List.set_cons_succ, i64_w, i32_w]
                          rfl
                        refine pure_ (i := 3) (N := some 90) (v := ?_) (a' := ?_) (dn_ 4 8) rfl rfl (any_of HT_.out (by kernel_rfl)) (fun _ _ _ h => h) (Or.inl ⟨by rfl, ?_⟩) ?_ ?_
                        rotate_left
                        · intro w'
                          go_simp
                          with_reducible rfl
                        rotate_left
                        · simp only [Act.put, List.setIfInBounds_toArray, List.set_cons_zero, List.set_cons_succ, i64_w, i32_w]
                          rfl
                        refine pure_ (i := 5) (N := some 92) (v := ?_) (a' := ?_) #[true, true, true, true, false, true, false, false] rfl rfl (any_of HT_.out (by kernel_rfl)) (fun _ _ _ h => h) (Or.inl ⟨by rfl, ?_⟩) ?_ ?_
                        rotate_left
                        · intro w'
                          go_simp
                          with_reducible rfl
                        rotate_left
                        · simp only [Act.put, List.setIfInBounds_toArray, List.set_cons_zero, List.set_cons_succ, i64_w, i32_w]
                          rfl
                        refine take_ (i := 4) (N := some 91) (v := ?_) (a' := ?_) (dn_ 6 8) rfl rfl (take_ofW HT_.out HW_.out (by kernel_rfl)) (fun _ _ _ h => h) (Or.inl ⟨by rfl, ?_⟩) hHeld ?_ ?_
                        rotate_left
                        · rintro w' ⟨s0, s1, s2, s3, s4, s5, s6, s7⟩
                          go_simp
                          with_reducible rfl
                        rotate_left
                        · simp only [Act.put, List.setIfInBounds_toArray, List.set_cons_zero, List.set_cons_succ, i64_w, i32_w]
                          rfl
                        refine take_ (i := 6) (N := some 93) (v := ?_) (a' := ?_) (dn_ 7 8) rfl rfl (take_ofW HT_.out HW_.out (by kernel_rfl)) (fun _ _ _ h => h) (Or.inl ⟨by rfl, ?_⟩) hHeld ?_ ?_
                        rotate_left
                        · rintro w' ⟨s0, s1, s2, s3, s4, s5, s6, s7⟩
                          go_simp
                          with_reducible rfl
                        rotate_left
                        · simp only [Act.put, List.setIfInBounds_toArray, List.set_cons_zero, List.set_cons_succ, i64_w, i32_w]
                          rfl
                        refine pure_ (i := 7) (N := some 94) (v := ?_) (a' := ?_) #[true, true, true, true, true, true, true, true] rfl rfl (any_of HT_.out (by kernel_rfl)) (fun _ _ _ h => h) (Or.inl ⟨by rfl, ?_⟩) ?_ ?_
                        rotate_left
                        · intro w'
                          go_simp
                          with_reducible rfl
                        rotate_left
                        · simp only [Act.put, List.setIfInBounds_toArray, List.set_cons_zero, List.set_cons_succ, i64_w, i32_w]
                          rfl
                        refine done_ (done_of HT_.out (by kernel_rfl)) ?_
                        try go_wp2
                        go_roundg k3
                        case measure => have := HJ2.out; have := HK2.out; have := HK3.out; omega
                        case rel => exact ⟨(x10_3), (wrap64 (x11_3 + 1)), (by first | rfl | (simp; done) | (simp [*]; done)), (by first | rfl | (simp; done) | (simp [*]; done)), H', ⟨by have := HJ2.out; have := HK2.out; have := HK3.out; omega⟩, ⟨by (with_reducible repeat (first | apply Kd.V_alloc | apply Kd.V_drewN | apply Kd.V_drew)); exact HO_0.out⟩, ⟨by (with_reducible repeat (first | apply Kd.N_alloc | apply Kd.N_drewN | apply Kd.N_drew)); exact HO_9.out⟩, ⟨by (with_reducible repeat (first | apply Kd.V_alloc | apply Kd.V_drewN | apply Kd.V_drew)); exact HO_383003.out⟩, ⟨by (with_reducible repeat (first | apply Kd.R_alloc | apply Kd.R_drewN | apply Kd.R_drew)); exact HO_396003.out⟩, ⟨by (with_reducible repeat (first | refine blk_drewN ?_ _ | refine blk_drew ?_ | refine blk_alloc ?_ _)); exact BK382.out⟩, ⟨by (with_reducible repeat (first | refine blk_drewN ?_ _ | refine blk_drew ?_ | refine blk_alloc ?_ _)); exact BK395.out⟩, ⟨by repeat (first | (with_reducible first | exact HB.out | apply below_alloc | apply pw_below_drewN | apply below_drew1 | refine below_set ?_ GE382.out | refine below_set ?_ GE395.out) | exact HB.out)⟩⟩
                    · rw [if_neg c50] at H
                      exact absurd H (by simp)
                  · rw [if_neg c49] at H
                    have c49b0 : decide (x11_3 < (t401.length : Int)) = false := decide_eq_false c49
                    clear c49
                    by_cases c56 : ([] : List (S36)).length + l0.length < 2932031007402
                    · rw [if_pos c56] at H
                      have LMc56 := Aside0.mk c56
                      clear c56
                      obtain ⟨y405, hy405⟩ : ∃ y_ : List (S36), y_ = (([] : List (S36)) ++ l0) := ⟨_, rfl⟩
                      replace H : (if y405.length < 2932031007402 then ((log_Best.f k3 (y405 ++ [(⟨a1_0, a1_1, a1_2, l1_3⟩ : S36)])).bind fun bt411 => (if t394 = true then (if a1_1 < t389 then (watchmanlaw23_LogBest.j4 k3 l0 t394 x7_2 x10_3 bt411.2.2.2.2 true a1_0 a1_1 a1_2 l1_3 t388 t389 t390 t391 bt411.1 bt411.2.1 bt411.2.2.1 bt411.2.2.2.1) else (if a1_1 = t389 then (watchmanlaw23_LogBest.j4 k3 l0 t394 x7_2 x10_3 bt411.2.2.2.2 (decide ((l1_3.length : Int) ≤ (t391.length : Int))) a1_0 a1_1 a1_2 l1_3 t388 t389 t390 t391 bt411.1 bt411.2.1 bt411.2.2.1 bt411.2.2.2.1) else (watchmanlaw23_LogBest.j4 k3 l0 t394 x7_2 x10_3 bt411.2.2.2.2 false a1_0 a1_1 a1_2 l1_3 t388 t389 t390 t391 bt411.1 bt411.2.1 bt411.2.2.1 bt411.2.2.2.1))) else (watchmanlaw23_LogBest.j4 k3 l0 t394 x7_2 x10_3 bt411.2.2.2.2 false a1_0 a1_1 a1_2 l1_3 t388 t389 t390 t391 bt411.1 bt411.2.1 bt411.2.2.1 bt411.2.2.2.1))) else (none)) = some r := by first | (rw [hy405]; with_reducible exact H) | (have H2_ := (Option.bind_some _ _).symm.trans H; rw [hy405]; with_reducible exact H2_) | (have H2_ := (Option.bind_some _ _).symm.trans H; with_reducible exact H2_) | with_reducible exact H | (rw [hy405]; exact H) | exact H
                      have Ny405 := Aside0.mk hy405
                      clear hy405
                      by_cases c57 : y405.length < 2932031007402
                      · rw [if_pos c57] at H
                        have LMc57 := Aside0.mk c57
                        clear c57
                        obtain ⟨y408, hy408⟩ : ∃ y_ : List (S36), y_ = (y405 ++ [(⟨a1_0, a1_1, a1_2, l1_3⟩ : S36)]) := ⟨_, rfl⟩
                        replace H : ((log_Best.f k3 y408).bind fun bt411 => (if t394 = true then (if a1_1 < t389 then (watchmanlaw23_LogBest.j4 k3 l0 t394 x7_2 x10_3 bt411.2.2.2.2 true a1_0 a1_1 a1_2 l1_3 t388 t389 t390 t391 bt411.1 bt411.2.1 bt411.2.2.1 bt411.2.2.2.1) else (if a1_1 = t389 then (watchmanlaw23_LogBest.j4 k3 l0 t394 x7_2 x10_3 bt411.2.2.2.2 (decide ((l1_3.length : Int) ≤ (t391.length : Int))) a1_0 a1_1 a1_2 l1_3 t388 t389 t390 t391 bt411.1 bt411.2.1 bt411.2.2.1 bt411.2.2.2.1) else (watchmanlaw23_LogBest.j4 k3 l0 t394 x7_2 x10_3 bt411.2.2.2.2 false a1_0 a1_1 a1_2 l1_3 t388 t389 t390 t391 bt411.1 bt411.2.1 bt411.2.2.1 bt411.2.2.2.1))) else (watchmanlaw23_LogBest.j4 k3 l0 t394 x7_2 x10_3 bt411.2.2.2.2 false a1_0 a1_1 a1_2 l1_3 t388 t389 t390 t391 bt411.1 bt411.2.1 bt411.2.2.1 bt411.2.2.2.1))) = some r := by first | (rw [hy408]; with_reducible exact H) | (have H2_ := (Option.bind_some _ _).symm.trans H; rw [hy408]; with_reducible exact H2_) | (have H2_ := (Option.bind_some _ _).symm.trans H; with_reducible exact H2_) | with_reducible exact H | (rw [hy408]; exact H) | exact H
                        have Ny408 := Aside0.mk hy408
                        clear hy408
                        replace H := Option.bind_eq_some_iff.mp H
                        obtain ⟨⟨t411, t412, t413, t414, t417⟩, A580, H⟩ := H
                        replace H : (if t394 = true then (if a1_1 < t389 then (watchmanlaw23_LogBest.j4 k3 l0 t394 x7_2 x10_3 t417 true a1_0 a1_1 a1_2 l1_3 t388 t389 t390 t391 t411 t412 t413 t414) else (if a1_1 = t389 then (watchmanlaw23_LogBest.j4 k3 l0 t394 x7_2 x10_3 t417 (decide ((l1_3.length : Int) ≤ (t391.length : Int))) a1_0 a1_1 a1_2 l1_3 t388 t389 t390 t391 t411 t412 t413 t414) else (watchmanlaw23_LogBest.j4 k3 l0 t394 x7_2 x10_3 t417 false a1_0 a1_1 a1_2 l1_3 t388 t389 t390 t391 t411 t412 t413 t414))) else (watchmanlaw23_LogBest.j4 k3 l0 t394 x7_2 x10_3 t417 false a1_0 a1_1 a1_2 l1_3 t388 t389 t390 t391 t411 t412 t413 t414)) = some r := H
                        have A58 := Aside0.mk A580
                        clear A580
                        have HC59 := Aside0.mk H
                        clear H
                        obtain ⟨Ao60, co60, eo60⟩ := Kd.N_slice HO_9.out
                        subst eo60
                        go_upto_region 22 with (first | ((with_reducible refine gate_builtin (b := .append) (xs := #[.tmp 97, .tmp 98]) rfl ?_); (try (refine gate_guard (by rfl) ?_; dsimp only)); at_builtin; refine Kd.N_append_rows k36 (w0 := w) w.heap.size rfl (.tmp 97) (.tmp 98) 34 36 (.agg #[(.int .i64 0), (.int .i64 0), (.int .i64 0), (.slice none 0 0)]) 48 rfl Try.underlying34 info36 rfl (by decide) (by omega) (.slice none 0 0) ([] : List (S36)) l0 _ _ _ (fun k_ => ((P0_ k_ ∨ P1_3_ k_) ∨ w.heap.size ≤ k_) ∧ some k_ ≠ (.slice Ao60 t401.length co60 : Value).ownBlock ∧ some k_ ≠ (.slice Ao28 t391.length co28 : Value).ownBlock ∧ k_ ≠ gb382 ∧ k_ ≠ gb395) (fun k_ => ((fun k_ => ((P0_ k_ ∨ P1_3_ k_) ∨ w.heap.size ≤ k_) ∧ some k_ ≠ (.slice Ao60 t401.length co60 : Value).ownBlock ∧ some k_ ≠ (.slice Ao28 t391.length co28 : Value).ownBlock ∧ k_ ≠ gb382 ∧ k_ ≠ gb395)) k_ ∧ some k_ ≠ (.slice none 0 0 : Value).ownBlock) rfl rfl ?aO ?aR (fun _ hk => hk) ?aF ?aB ?aS ?aL ?_; (case aR => exact (by skip; exact Kd.V_F (Kd.V_mono (ok' := (fun k_ => ((fun k_ => ((P0_ k_ ∨ P1_3_ k_) ∨ w.heap.size ≤ k_) ∧ some k_ ≠ (.slice Ao60 t401.length co60 : Value).ownBlock ∧ some k_ ≠ (.slice Ao28 t391.length co28 : Value).ownBlock ∧ k_ ≠ gb382 ∧ k_ ≠ gb395)) k_ ∧ some k_ ≠ (.slice none 0 0 : Value).ownBlock)) (HO_0.out) (fun k_ hk => ⟨⟨hk.1, ⟨hk.2.1, ⟨hk.2.2.1, ⟨hk.2.2.2.1, hk.2.2.2.2⟩⟩⟩⟩, (by simp [Value.ownBlock])⟩)))); (case aB => exact (by repeat (first | (with_reducible first | exact HB.out | apply below_alloc | apply pw_below_drewN | apply below_drew1 | refine below_set ?_ GE382.out | refine below_set ?_ GE395.out) | exact HB.out))); (case aF => exact (fun k_ hk => ⟨(.inr (Nat.le_trans (below_size (by repeat (first | (with_reducible first | exact HB.out | apply below_alloc | apply pw_below_drewN | apply below_drew1 | refine below_set ?_ GE382.out | refine below_set ?_ GE395.out) | exact HB.out))) hk)), Kd.fresh' (Kd.N_lt (by (with_reducible repeat (first | apply Kd.N_alloc | apply Kd.N_drewN | apply Kd.N_drew)); exact HO_9.out)) k_ hk, Kd.fresh' (Kd.R_lt (by (with_reducible repeat (first | apply Kd.R_alloc | apply Kd.R_drewN | apply Kd.R_drew)); exact HO_396003.out)) k_ hk, Kd.freshB (g := gb382) (o := .cells #[.int .i64 a1_0, .int .i64 a1_1, .int .i64 a1_2, .slice A1_3 l1_3.length c1_3] 36 (0, 0)) (by (with_reducible repeat (first | refine blk_drewN ?_ _ | refine blk_drew ?_ | refine blk_alloc ?_ _)); exact BK382.out) k_ hk, Kd.freshB (g := gb395) (o := .cells #[.int .i64 t388, .int .i64 t389, .int .i64 t390, .slice Ao28 t391.length co28] 36 (0, 0)) (by (with_reducible repeat (first | refine blk_drewN ?_ _ | refine blk_drew ?_ | refine blk_alloc ?_ _)); exact BK395.out) k_ hk⟩)); (case aO => exact ((Kd.N_nil _ _ _ _ (fun k_ => ((P0_ k_ ∨ P1_3_ k_) ∨ w.heap.size ≤ k_) ∧ some k_ ≠ (.slice Ao60 t401.length co60 : Value).ownBlock ∧ some k_ ≠ (.slice Ao28 t391.length co28 : Value).ownBlock ∧ k_ ≠ gb382 ∧ k_ ≠ gb395)))); (case aS => exact (below_size (by repeat (first | (with_reducible first | exact HB.out | apply below_alloc | apply pw_below_drewN | apply below_drew1 | refine below_set ?_ GE382.out | refine below_set ?_ GE395.out) | exact HB.out)))); (case aL => have := LMc56.out; omega); intro v406 w61 ho hb hg hat; rw [← Ny405.out] at ho; have n0_ := Aside0.mk (Kd.V_afterv (Kd.V_apart_nil (by (with_reducible repeat (first | apply Kd.V_alloc | apply Kd.V_drewN | apply Kd.V_drew)); exact HO_0.out)) hg hat); have n1_ := Aside0.mk (Kd.N_afterv (Kd.N_apart_nil (by (with_reducible repeat (first | apply Kd.N_alloc | apply Kd.N_drewN | apply Kd.N_drew)); exact HO_9.out)) hg hat); have n2_ := Aside0.mk (Kd.V_afterv (Kd.V_apart_nil (by (with_reducible repeat (first | apply Kd.V_alloc | apply Kd.V_drewN | apply Kd.V_drew)); exact HO_383003.out)) hg hat); have n3_ := Aside0.mk (Kd.R_grown (by (with_reducible repeat (first | apply Kd.R_alloc | apply Kd.R_drewN | apply Kd.R_drew)); exact HO_396003.out) hg (fun _ _ => by simp [Value.ownBlock])); have n4_ := Aside0.mk (blk_grown (g := gb382) (o := .cells #[.int .i64 a1_0, .int .i64 a1_1, .int .i64 a1_2, .slice A1_3 l1_3.length c1_3] 36 (0, 0)) (by (with_reducible repeat (first | refine blk_drewN ?_ _ | refine blk_drew ?_ | refine blk_alloc ?_ _)); exact BK382.out) hg (by simp [Value.ownBlock])); have n5_ := Aside0.mk (blk_grown (g := gb395) (o := .cells #[.int .i64 t388, .int .i64 t389, .int .i64 t390, .slice Ao28 t391.length co28] 36 (0, 0)) (by (with_reducible repeat (first | refine blk_drewN ?_ _ | refine blk_drew ?_ | refine blk_alloc ?_ _)); exact BK395.out) hg (by simp [Value.ownBlock])); have n6_ := Aside0.mk (hb); have n7_ := Aside0.mk (ho); clear HO_0; clear HO_9; clear HO_383003; clear HO_396003; clear BK382; clear BK395; clear HB; have HO_0 := n0_; have HO_9 := n1_; have HO_383003 := n2_; have HO_396003 := n3_; have BK382 := n4_; have BK395 := n5_; have HB := n6_; have HO407 := n7_; clear n0_ n1_ n2_ n3_ n4_ n5_ n6_ n7_; clear ho hb hg hat; have hnb62 := NB382_395.out; have hnc62 := NB395_382.out; have hcz63_0 : w61.cell? ⟨gb382, 0, none⟩ = some (.int .i64 a1_0) := (blk_cell BK382.out 0).trans rfl; have hcz63_1 : w61.cell? ⟨gb382, 1, none⟩ = some (.int .i64 a1_1) := (blk_cell BK382.out 1).trans rfl; have hcz63_2 : w61.cell? ⟨gb382, 2, none⟩ = some (.int .i64 a1_2) := (blk_cell BK382.out 2).trans rfl; have hcz63_3 : w61.cell? ⟨gb382, 3, none⟩ = some (.slice A1_3 l1_3.length c1_3) := (blk_cell BK382.out 3).trans rfl; have hfz63_0 := blk_frozen BK382.out 0; have hfz63_1 := blk_frozen BK382.out 1; have hfz63_2 := blk_frozen BK382.out 2; have hfz63_3 := blk_frozen BK382.out 3) | ((with_reducible refine gate_builtin (b := .append) (xs := #[.tmp 100, .tmp 102]) rfl ?_); (try (refine gate_guard (by rfl) ?_; dsimp only)); at_builtin; refine Kd.N_append k36 (w0 := w) w.heap.size rfl (.tmp 100) (.tmp 102) 34 36 (.agg #[(.int .i64 0), (.int .i64 0), (.int .i64 0), (.slice none 0 0)]) 48 rfl Try.underlying34 info36 rfl (by decide) (by omega) v406 y405 (⟨a1_0, a1_1, a1_2, l1_3⟩ : S36) [.int .i64 a1_0, .int .i64 a1_1, .int .i64 a1_2, .slice A1_3 l1_3.length c1_3] (fun k_ => ((P0_ k_ ∨ P1_3_ k_) ∨ w.heap.size ≤ k_) ∧ some k_ ≠ (.slice Ao60 t401.length co60 : Value).ownBlock ∧ some k_ ≠ (.slice Ao28 t391.length co28 : Value).ownBlock ∧ k_ ≠ gb382 ∧ k_ ≠ gb395) (fun k_ => ((fun k_ => ((P0_ k_ ∨ P1_3_ k_) ∨ w.heap.size ≤ k_) ∧ some k_ ≠ (.slice Ao60 t401.length co60 : Value).ownBlock ∧ some k_ ≠ (.slice Ao28 t391.length co28 : Value).ownBlock ∧ k_ ≠ gb382 ∧ k_ ≠ gb395)) k_ ∧ some k_ ≠ (v406 : Value).ownBlock) rfl rfl ?aP (fun _ hk => hk) ?aF ?aO ?aB ?aS ?aL ?_; (case aP => exact (k36_mkF _ _ (⟨a1_0, a1_1, a1_2, l1_3⟩ : S36) (Kd.V_reads' (Kd.V_mono (ok' := (fun k_ => ((fun k_ => ((P0_ k_ ∨ P1_3_ k_) ∨ w.heap.size ≤ k_) ∧ some k_ ≠ (.slice Ao60 t401.length co60 : Value).ownBlock ∧ some k_ ≠ (.slice Ao28 t391.length co28 : Value).ownBlock ∧ k_ ≠ gb382 ∧ k_ ≠ gb395)) k_ ∧ some k_ ≠ (v406 : Value).ownBlock)) (HO_383003.out) (fun k_ hk => ⟨⟨hk.1.1, ⟨hk.1.2.1, ⟨hk.1.2.2.1, ⟨hk.1.2.2.2.1, hk.1.2.2.2.2⟩⟩⟩⟩, hk.2⟩))).2.1 (Kd.V_F (Kd.V_mono (ok' := (fun k_ => ((fun k_ => ((P0_ k_ ∨ P1_3_ k_) ∨ w.heap.size ≤ k_) ∧ some k_ ≠ (.slice Ao60 t401.length co60 : Value).ownBlock ∧ some k_ ≠ (.slice Ao28 t391.length co28 : Value).ownBlock ∧ k_ ≠ gb382 ∧ k_ ≠ gb395)) k_ ∧ some k_ ≠ (v406 : Value).ownBlock)) (HO_383003.out) (fun k_ hk => ⟨⟨hk.1.1, ⟨hk.1.2.1, ⟨hk.1.2.2.1, ⟨hk.1.2.2.2.1, hk.1.2.2.2.2⟩⟩⟩⟩, hk.2⟩))))); (case aB => exact (by repeat (first | (with_reducible first | exact HB.out | apply below_alloc | apply pw_below_drewN | apply below_drew1 | refine below_set ?_ GE382.out | refine below_set ?_ GE395.out) | exact HB.out))); (case aF => exact (fun k_ hk => ⟨(.inr (Nat.le_trans (below_size (by repeat (first | (with_reducible first | exact HB.out | apply below_alloc | apply pw_below_drewN | apply below_drew1 | refine below_set ?_ GE382.out | refine below_set ?_ GE395.out) | exact HB.out))) hk)), Kd.fresh' (Kd.N_lt (by (with_reducible repeat (first | apply Kd.N_alloc | apply Kd.N_drewN | apply Kd.N_drew)); exact HO_9.out)) k_ hk, Kd.fresh' (Kd.R_lt (by (with_reducible repeat (first | apply Kd.R_alloc | apply Kd.R_drewN | apply Kd.R_drew)); exact HO_396003.out)) k_ hk, Kd.freshB (g := gb382) (o := .cells #[.int .i64 a1_0, .int .i64 a1_1, .int .i64 a1_2, .slice A1_3 l1_3.length c1_3] 36 (0, 0)) (by (with_reducible repeat (first | refine blk_drewN ?_ _ | refine blk_drew ?_ | refine blk_alloc ?_ _)); exact BK382.out) k_ hk, Kd.freshB (g := gb395) (o := .cells #[.int .i64 t388, .int .i64 t389, .int .i64 t390, .slice Ao28 t391.length co28] 36 (0, 0)) (by (with_reducible repeat (first | refine blk_drewN ?_ _ | refine blk_drew ?_ | refine blk_alloc ?_ _)); exact BK395.out) k_ hk⟩)); (case aO => exact (by (with_reducible repeat (first | apply Kd.N_alloc | apply Kd.N_drewN | apply Kd.N_drew)); exact HO407.out)); (case aS => exact (below_size (by repeat (first | (with_reducible first | exact HB.out | apply below_alloc | apply pw_below_drewN | apply below_drew1 | refine below_set ?_ GE382.out | refine below_set ?_ GE395.out) | exact HB.out)))); (case aL => have := LMc57.out; omega); intro v409 w64 ho hb hg hat; rw [← Ny408.out] at ho; have n0_ := Aside0.mk (Kd.V_afterv (ok := (fun k_ => ((P0_ k_ ∨ P1_3_ k_) ∨ w.heap.size ≤ k_) ∧ some k_ ≠ (.slice Ao60 t401.length co60 : Value).ownBlock ∧ some k_ ≠ (.slice Ao28 t391.length co28 : Value).ownBlock ∧ k_ ≠ gb382 ∧ k_ ≠ gb395)) (by (with_reducible repeat (first | apply Kd.V_alloc | apply Kd.V_drewN | apply Kd.V_drew)); exact HO_0.out) hg hat); have n1_ := Aside0.mk (Kd.N_afterv (ok := (fun k_ => ((P0_ k_ ∨ P1_3_ k_) ∨ w.heap.size ≤ k_) ∧ some k_ ≠ (.slice Ao28 t391.length co28 : Value).ownBlock ∧ k_ ≠ gb382 ∧ k_ ≠ gb395)) (by (with_reducible repeat (first | apply Kd.N_alloc | apply Kd.N_drewN | apply Kd.N_drew)); exact HO_9.out) hg hat); have n2_ := Aside0.mk (Kd.V_afterv (ok := (fun k_ => ((P0_ k_ ∨ P1_3_ k_) ∨ w.heap.size ≤ k_) ∧ some k_ ≠ (.slice Ao60 t401.length co60 : Value).ownBlock ∧ some k_ ≠ (.slice Ao28 t391.length co28 : Value).ownBlock ∧ k_ ≠ gb382 ∧ k_ ≠ gb395)) (by (with_reducible repeat (first | apply Kd.V_alloc | apply Kd.V_drewN | apply Kd.V_drew)); exact HO_383003.out) hg hat); have n3_ := Aside0.mk (Kd.R_over' (by (with_reducible repeat (first | apply Kd.R_alloc | apply Kd.R_drewN | apply Kd.R_drew)); exact HO_396003.out) (Kd.N_typed (by (with_reducible repeat (first | apply Kd.N_alloc | apply Kd.N_drewN | apply Kd.N_drew)); exact HO407.out)) (by decide) hg); have n4_ := Aside0.mk (blk_grown (g := gb382) (o := .cells #[.int .i64 a1_0, .int .i64 a1_1, .int .i64 a1_2, .slice A1_3 l1_3.length c1_3] 36 (0, 0)) (by (with_reducible repeat (first | refine blk_drewN ?_ _ | refine blk_drew ?_ | refine blk_alloc ?_ _)); exact BK382.out) hg (Kd.N_away HO407.out (fun _ hk => hk.2.2.2.1))); have n5_ := Aside0.mk (blk_grown (g := gb395) (o := .cells #[.int .i64 t388, .int .i64 t389, .int .i64 t390, .slice Ao28 t391.length co28] 36 (0, 0)) (by (with_reducible repeat (first | refine blk_drewN ?_ _ | refine blk_drew ?_ | refine blk_alloc ?_ _)); exact BK395.out) hg (Kd.N_away HO407.out (fun _ hk => hk.2.2.2.2))); have n6_ := Aside0.mk (hb); have n7_ := Aside0.mk (ho); clear HO_0; clear HO_9; clear HO_383003; clear HO_396003; clear BK382; clear BK395; clear HB; clear HO407; have HO_0 := n0_; have HO_9 := n1_; have HO_383003 := n2_; have HO_396003 := n3_; have BK382 := n4_; have BK395 := n5_; have HB := n6_; have HO410 := n7_; clear n0_ n1_ n2_ n3_ n4_ n5_ n6_ n7_; clear ho hb hg hat; obtain ⟨Ao65, co65, eo65⟩ := Kd.N_slice HO410.out; subst eo65) | ((with_reducible refine gate_callee (f := 21) rfl ?_); refine goesL_ (some 106) rfl rfl Try.func21 (by kernel_rfl) rfl #[.slice Ao65 y408.length co65] rfl (by (try simp only [List.map_toArray, List.map_cons, List.map_nil]); first | done | rfl | (simp only [List.length_drop, List.length_take]; rfl)) ?_; (with_reducible refine (log_Best.calls k3 _ _ y408 t411 t412 t413 t414 t417 _ ?side1 ?side2 A58.out).mono ?_); (case side1 => repeat (first | exact (Kd.N_reads' HO410.out).2.2 | (with_reducible refine Kd.C_alloc ?_ _) | (with_reducible refine Kd.C_drewN ?_ _) | (with_reducible refine Kd.C_drew ?_))); (case side2 => exact (Kd.N_reads' HO410.out).2.1); rintro e w66 ⟨v415, rfl, ho0, hb⟩; refine ⟨_, rfl, ?_⟩; have n0_ := Aside0.mk (Kd.V_elder' (by (with_reducible repeat (first | apply Kd.V_alloc | apply Kd.V_drewN | apply Kd.V_drew)); exact HO_0.out) (Kd.R_base ho0) hb); have n1_ := Aside0.mk (Kd.N_elder' (by (with_reducible repeat (first | apply Kd.N_alloc | apply Kd.N_drewN | apply Kd.N_drew)); exact HO_9.out) (Kd.R_base ho0) hb); have n2_ := Aside0.mk (Kd.V_elder' (by (with_reducible repeat (first | apply Kd.V_alloc | apply Kd.V_drewN | apply Kd.V_drew)); exact HO_383003.out) (Kd.R_base ho0) hb); have n3_ := Aside0.mk (Kd.R_elder' (by (with_reducible repeat (first | apply Kd.R_alloc | apply Kd.R_drewN | apply Kd.R_drew)); exact HO_396003.out) (Kd.R_base ho0) hb); have n4_ := Aside0.mk (Kd.N_elder' (by (with_reducible repeat (first | apply Kd.N_alloc | apply Kd.N_drewN | apply Kd.N_drew)); exact HO410.out) (Kd.R_base ho0) hb); have n5_ := Aside0.mk (Kd.R_lower (Kd.R_new' (Kd.R_newM (M := fun k_ => (w.heap.size ≤ k_)) ho0 (below_size (by repeat (first | (with_reducible first | exact HB.out | apply below_alloc | apply pw_below_drewN | apply below_drew1 | refine below_set ?_ GE382.out | refine below_set ?_ GE395.out) | exact HB.out))) (fun k_ h_ => h_)) (Kd.R_lt (by (with_reducible repeat (first | apply Kd.R_alloc | apply Kd.R_drewN | apply Kd.R_drew)); exact HO_396003.out))) (below_size (by repeat (first | (with_reducible first | exact HB.out | apply below_alloc | apply pw_below_drewN | apply below_drew1 | refine below_set ?_ GE382.out | refine below_set ?_ GE395.out) | exact HB.out)))); have n6_ := Aside0.mk (blk_below (g := gb382) (o := .cells #[.int .i64 a1_0, .int .i64 a1_1, .int .i64 a1_2, .slice A1_3 l1_3.length c1_3] 36 (0, 0)) (by (with_reducible repeat (first | refine blk_drewN ?_ _ | refine blk_drew ?_ | refine blk_alloc ?_ _)); exact BK382.out) hb); have n7_ := Aside0.mk (blk_below (g := gb395) (o := .cells #[.int .i64 t388, .int .i64 t389, .int .i64 t390, .slice Ao28 t391.length co28] 36 (0, 0)) (by (with_reducible repeat (first | refine blk_drewN ?_ _ | refine blk_drew ?_ | refine blk_alloc ?_ _)); exact BK395.out) hb); have n8_ := Aside0.mk (below_step (by repeat (first | (with_reducible first | exact HB.out | apply below_alloc | apply pw_below_drewN | apply below_drew1 | refine below_set ?_ GE382.out | refine below_set ?_ GE395.out) | exact HB.out)) hb); clear HO_0; clear HO_9; clear HO_383003; clear HO_396003; clear HO410; clear BK382; clear BK395; clear HB; have HO_0 := n0_; have HO_9 := n1_; have HO_383003 := n2_; have HO_396003 := n3_; have HO410 := n4_; have HO416 := n5_; have BK382 := n6_; have BK395 := n7_; have HB := n8_; clear n0_ n1_ n2_ n3_ n4_ n5_ n6_ n7_ n8_; (try clear hb); (try clear hb2); (try clear hk); (try clear hi); (try clear ho0)) | ((with_reducible refine gate_dst (N := 13) rfl ?_); (try (refine gate_guard (by rfl) ?_; dsimp only)); refine box_event ?hg (N := 13) ?hd (cs := #[.int .i64 0, .int .i64 0, .int .i64 0, .slice none 0 0]) (t := 36) ?hr ?_; (case hd => rfl); (case hg => rfl); (case hr => first | (go_simp; done) | (go_simp; rfl)); intro gb418 hg w67 hbox hb; have n0_ := Aside0.mk (Kd.V_below (Kd.V_elderB (by (with_reducible repeat (first | apply Kd.V_alloc | apply Kd.V_drewN | apply Kd.V_drew)); exact HO_0.out) gb418 (Nat.le_of_eq hg.symm)) hb); have n1_ := Aside0.mk (Kd.N_below (Kd.N_elderB (by (with_reducible repeat (first | apply Kd.N_alloc | apply Kd.N_drewN | apply Kd.N_drew)); exact HO_9.out) gb418 (Nat.le_of_eq hg.symm)) hb); have n2_ := Aside0.mk (Kd.V_below (Kd.V_elderB (by (with_reducible repeat (first | apply Kd.V_alloc | apply Kd.V_drewN | apply Kd.V_drew)); exact HO_383003.out) gb418 (Nat.le_of_eq hg.symm)) hb); have n3_ := Aside0.mk (Kd.R_below (by (with_reducible repeat (first | apply Kd.R_alloc | apply Kd.R_drewN | apply Kd.R_drew)); exact HO_396003.out) hb); have n4_ := Aside0.mk (Kd.N_below (Kd.N_elderB (by (with_reducible repeat (first | apply Kd.N_alloc | apply Kd.N_drewN | apply Kd.N_drew)); exact HO410.out) gb418 (Nat.le_of_eq hg.symm)) hb); have n5_ := Aside0.mk (Kd.R_below (by (with_reducible repeat (first | apply Kd.R_alloc | apply Kd.R_drewN | apply Kd.R_drew)); exact HO416.out) hb); have n6_ := Aside0.mk (blk_below (g := gb382) (o := .cells #[.int .i64 a1_0, .int .i64 a1_1, .int .i64 a1_2, .slice A1_3 l1_3.length c1_3] 36 (0, 0)) (by (with_reducible repeat (first | refine blk_drewN ?_ _ | refine blk_drew ?_ | refine blk_alloc ?_ _)); exact BK382.out) hb); have n7_ := Aside0.mk (blk_below (g := gb395) (o := .cells #[.int .i64 t388, .int .i64 t389, .int .i64 t390, .slice Ao28 t391.length co28] 36 (0, 0)) (by (with_reducible repeat (first | refine blk_drewN ?_ _ | refine blk_drew ?_ | refine blk_alloc ?_ _)); exact BK395.out) hb); have n8_ := Aside0.mk (below_step (by repeat (first | (with_reducible first | exact HB.out | apply below_alloc | apply pw_below_drewN | apply below_drew1 | refine below_set ?_ GE382.out | refine below_set ?_ GE395.out) | exact HB.out)) hb); have n9_ := Aside0.mk (hbox); have n10_ := Aside0.mk ((by rw [hg]; exact (below_size (by repeat (first | (with_reducible first | exact HB.out | apply below_alloc | apply pw_below_drewN | apply below_drew1 | refine below_set ?_ GE382.out | refine below_set ?_ GE395.out) | exact HB.out))) : w.heap.size ≤ gb418)); have n11_ := Aside0.mk ((by rw [hg]; exact (below_size (by repeat (first | (with_reducible first | exact HB.out | apply below_alloc | apply pw_below_drewN | apply below_drew1 | refine below_set ?_ GE382.out | refine below_set ?_ GE395.out) | exact HB.out))) : w.heap.size ≤ gb418)); have n12_ := Aside0.mk ((by rw [hg]; exact Nat.ne_of_lt (blk_lt (g := gb382) (o := .cells #[.int .i64 a1_0, .int .i64 a1_1, .int .i64 a1_2, .slice A1_3 l1_3.length c1_3] 36 (0, 0)) (by (with_reducible repeat (first | refine blk_drewN ?_ _ | refine blk_drew ?_ | refine blk_alloc ?_ _)); exact BK382.out)) : gb382 ≠ gb418)); have n13_ := Aside0.mk ((by rw [hg]; exact Nat.ne_of_gt (blk_lt (g := gb382) (o := .cells #[.int .i64 a1_0, .int .i64 a1_1, .int .i64 a1_2, .slice A1_3 l1_3.length c1_3] 36 (0, 0)) (by (with_reducible repeat (first | refine blk_drewN ?_ _ | refine blk_drew ?_ | refine blk_alloc ?_ _)); exact BK382.out)) : gb418 ≠ gb382)); have n14_ := Aside0.mk ((by rw [hg]; exact Nat.ne_of_lt (blk_lt (g := gb395) (o := .cells #[.int .i64 t388, .int .i64 t389, .int .i64 t390, .slice Ao28 t391.length co28] 36 (0, 0)) (by (with_reducible repeat (first | refine blk_drewN ?_ _ | refine blk_drew ?_ | refine blk_alloc ?_ _)); exact BK395.out)) : gb395 ≠ gb418)); have n15_ := Aside0.mk ((by rw [hg]; exact Nat.ne_of_gt (blk_lt (g := gb395) (o := .cells #[.int .i64 t388, .int .i64 t389, .int .i64 t390, .slice Ao28 t391.length co28] 36 (0, 0)) (by (with_reducible repeat (first | refine blk_drewN ?_ _ | refine blk_drew ?_ | refine blk_alloc ?_ _)); exact BK395.out)) : gb418 ≠ gb395)); clear HO_0; clear HO_9; clear HO_383003; clear HO_396003; clear HO410; clear HO416; clear BK382; clear BK395; clear HB; have HO_0 := n0_; have HO_9 := n1_; have HO_383003 := n2_; have HO_396003 := n3_; have HO410 := n4_; have HO416 := n5_; have BK382 := n6_; have BK395 := n7_; have HB := n8_; have BK418 := n9_; have GW418 := n10_; have GE418 := n11_; have NB382_418 := n12_; have NB418_382 := n13_; have NB395_418 := n14_; have NB418_395 := n15_; clear n0_ n1_ n2_ n3_ n4_ n5_ n6_ n7_ n8_ n9_ n10_ n11_ n12_ n13_ n14_ n15_; clear hb hbox hg; have hnb68 := NB418_382.out; have hnc68 := NB382_418.out; have hnb69 := NB418_395.out; have hnc69 := NB395_418.out; have hcz70_0 : w67.cell? ⟨gb418, 0, none⟩ = some (.int .i64 0) := (blk_cell BK418.out 0).trans rfl; have hcz70_1 : w67.cell? ⟨gb418, 1, none⟩ = some (.int .i64 0) := (blk_cell BK418.out 1).trans rfl; have hcz70_2 : w67.cell? ⟨gb418, 2, none⟩ = some (.int .i64 0) := (blk_cell BK418.out 2).trans rfl; have hcz70_3 : w67.cell? ⟨gb418, 3, none⟩ = some (.slice none 0 0) := (blk_cell BK418.out 3).trans rfl; have hfz70_0 := blk_frozen BK418.out 0; have hfz70_1 := blk_frozen BK418.out 1; have hfz70_2 := blk_frozen BK418.out 2; have hfz70_3 := blk_frozen BK418.out 3; obtain ⟨Ao71, co71, eo71⟩ := Kd.R_slice HO416.out; subst eo71))
                        (try simp only [Act.put, List.setIfInBounds_toArray, List.set_cons_zero, List.set_cons_succ])
                        go_cut [15] (fun v15 wc => ∃ (kq : Nat) (x15_58 : Bool), v15 = .bool x15_58 ∧ Aside0 (watchmanlaw23_LogBest.j4 kq l0 t394 x7_2 x10_3 t417 x15_58 a1_0 a1_1 a1_2 l1_3 t388 t389 t390 t391 t411 t412 t413 t414 = some r) ∧ Aside0 (kq ≤ k3) ∧ Aside0 (Kd.V k36 36 wc w.heap.size (fun k_ => ((P0_ k_ ∨ P1_3_ k_) ∨ w.heap.size ≤ k_) ∧ some k_ ≠ ((.slice Ao28 t391.length co28) : Value).ownBlock ∧ some k_ ≠ ((.slice Ao71 t414.length co71) : Value).ownBlock ∧ k_ ≠ gb382 ∧ k_ ≠ gb395 ∧ k_ ≠ gb418) (.slice A0 l0.length c0) l0) ∧ Aside0 (Kd.V Kd.string 9 wc w.heap.size (fun k_ => ((P0_ k_ ∨ P1_3_ k_) ∨ w.heap.size ≤ k_) ∧ some k_ ≠ ((.slice Ao28 t391.length co28) : Value).ownBlock ∧ some k_ ≠ ((.slice Ao71 t414.length co71) : Value).ownBlock ∧ k_ ≠ gb382 ∧ k_ ≠ gb395 ∧ k_ ≠ gb418) (.slice A1_3 l1_3.length c1_3) l1_3) ∧ Aside0 (Kd.R Kd.string 9 wc w.heap.size (fun k_ => (w.heap.size ≤ k_) ∧ some k_ ≠ ((.slice Ao71 t414.length co71) : Value).ownBlock) (.slice Ao28 t391.length co28) t391) ∧ Aside0 (Kd.R Kd.string 9 wc w.heap.size (fun k_ => (w.heap.size ≤ k_) ∧ some k_ ≠ ((.slice Ao28 t391.length co28) : Value).ownBlock) (.slice Ao71 t414.length co71) t414) ∧ Aside0 (wc.heap[gb382]? = some (.cells #[.int .i64 a1_0, .int .i64 a1_1, .int .i64 a1_2, (.slice A1_3 l1_3.length c1_3)] 36 (0, 0))) ∧ Aside0 (wc.heap[gb395]? = some (.cells #[.int .i64 t388, .int .i64 t389, .int .i64 t390, (.slice Ao28 t391.length co28)] 36 (0, 0))) ∧ Aside0 (wc.heap[gb418]? = some (.cells #[.int .i64 t411, .int .i64 t412, .int .i64 t413, (.slice Ao71 t414.length co71)] 36 (0, 0))) ∧ Aside0 (Below w.heap.size w wc))
                        case first =>
                          have H := HC59.out
                          clear HC59
                          by_cases c72 : t394 = true
                          · subst c72
                            have H1 : (if a1_1 < t389 then (watchmanlaw23_LogBest.j4 k3 l0 true x7_2 x10_3 t417 true a1_0 a1_1 a1_2 l1_3 t388 t389 t390 t391 t411 t412 t413 t414) else (if a1_1 = t389 then (watchmanlaw23_LogBest.j4 k3 l0 true x7_2 x10_3 t417 (decide ((l1_3.length : Int) ≤ (t391.length : Int))) a1_0 a1_1 a1_2 l1_3 t388 t389 t390 t391 t411 t412 t413 t414) else (watchmanlaw23_LogBest.j4 k3 l0 true x7_2 x10_3 t417 false a1_0 a1_1 a1_2 l1_3 t388 t389 t390 t391 t411 t412 t413 t414))) = some r := by rw [if_pos rfl] at H; exact H
                            clear H
                            have H := H1
                            clear H1
                            by_cases c73 : a1_1 < t389
                            · rw [if_pos c73] at H
                              have c73b0 : decide (a1_1 < t389) = true := decide_eq_true c73
                              clear c73
                              (first | rw [c73b0] | (simp only [i64_w, i32_w]; rw [c73b0]) | skip)
                              have H' := Aside0.mk H
                              clear H
                              have hnb74 := NB382_395.out
                              have hnc74 := NB395_382.out
                              have hnb75 := NB382_418.out
                              have hnc75 := NB418_382.out
                              have hcz76_0 : w67.cell? ⟨gb382, 0, none⟩ = some (.int .i64 a1_0) := (blk_cell BK382.out 0).trans rfl
                              have hcz76_1 : w67.cell? ⟨gb382, 1, none⟩ = some (.int .i64 a1_1) := (blk_cell BK382.out 1).trans rfl
                              have hcz76_2 : w67.cell? ⟨gb382, 2, none⟩ = some (.int .i64 a1_2) := (blk_cell BK382.out 2).trans rfl
                              have hcz76_3 : w67.cell? ⟨gb382, 3, none⟩ = some (.slice A1_3 l1_3.length c1_3) := (blk_cell BK382.out 3).trans rfl
                              have hfz76_0 := blk_frozen BK382.out 0
                              have hfz76_1 := blk_frozen BK382.out 1
                              have hfz76_2 := blk_frozen BK382.out 2
                              have hfz76_3 := blk_frozen BK382.out 3
                              have hnb77 := NB395_418.out
                              have hnc77 := NB418_395.out
                              have hcz78_0 : w67.cell? ⟨gb395, 0, none⟩ = some (.int .i64 t388) := (blk_cell BK395.out 0).trans rfl
                              have hcz78_1 : w67.cell? ⟨gb395, 1, none⟩ = some (.int .i64 t389) := (blk_cell BK395.out 1).trans rfl
                              have hcz78_2 : w67.cell? ⟨gb395, 2, none⟩ = some (.int .i64 t390) := (blk_cell BK395.out 2).trans rfl
                              have hcz78_3 : w67.cell? ⟨gb395, 3, none⟩ = some (.slice Ao28 t391.length co28) := (blk_cell BK395.out 3).trans rfl
                              have hfz78_0 := blk_frozen BK395.out 0
                              have hfz78_1 := blk_frozen BK395.out 1
                              have hfz78_2 := blk_frozen BK395.out 2
                              have hfz78_3 := blk_frozen BK395.out 3
                              go_wp2
                              go_meet
                              case rel => exact ⟨_, (true), (by first | rfl | (simp; done) | (simp [*]; done)), H', ⟨by have := HJ2.out; have := HK2.out; have := HK3.out; first | omega | exact Nat.le_refl _⟩, ⟨by (with_reducible repeat (first | apply Kd.V_alloc | apply Kd.V_drewN | apply Kd.V_drew)); exact Kd.V_mono (Kd.V_far (p := ⟨gb418, 3, none⟩) (Kd.V_far (p := ⟨gb418, 2, none⟩) (Kd.V_far (p := ⟨gb418, 1, none⟩) (Kd.V_far (p := ⟨gb418, 0, none⟩) (Kd.V_mono HO_0.out (fun k_ hk => (⟨hk, hk.2⟩ : _ ∧ k_ ≠ gb418))) (fun _ hk => hk.2) (.int .i64 t411)) (fun _ hk => hk.2) (.int .i64 t412)) (fun _ hk => hk.2) (.int .i64 t413)) (fun _ hk => hk.2) (.slice Ao71 t414.length co71)) (fun _ hk => ⟨hk.1.1.1.1.1, ⟨hk.1.1.1.1.2.2.1, ⟨hk.1.1.2, ⟨hk.1.1.1.1.2.2.2.1, ⟨hk.1.1.1.1.2.2.2.2, hk.1.2⟩⟩⟩⟩⟩)⟩, ⟨by (with_reducible repeat (first | apply Kd.V_alloc | apply Kd.V_drewN | apply Kd.V_drew)); exact Kd.V_mono (Kd.V_far (p := ⟨gb418, 3, none⟩) (Kd.V_far (p := ⟨gb418, 2, none⟩) (Kd.V_far (p := ⟨gb418, 1, none⟩) (Kd.V_far (p := ⟨gb418, 0, none⟩) (Kd.V_mono HO_383003.out (fun k_ hk => (⟨hk, hk.2⟩ : _ ∧ k_ ≠ gb418))) (fun _ hk => hk.2) (.int .i64 t411)) (fun _ hk => hk.2) (.int .i64 t412)) (fun _ hk => hk.2) (.int .i64 t413)) (fun _ hk => hk.2) (.slice Ao71 t414.length co71)) (fun _ hk => ⟨hk.1.1.1.1.1, ⟨hk.1.1.1.1.2.2.1, ⟨hk.1.1.2, ⟨hk.1.1.1.1.2.2.2.1, ⟨hk.1.1.1.1.2.2.2.2, hk.1.2⟩⟩⟩⟩⟩)⟩, ⟨by (with_reducible repeat (first | apply Kd.R_alloc | apply Kd.R_drewN | apply Kd.R_drew)); exact Kd.R_mono (Kd.R_far (p := ⟨gb418, 3, none⟩) (Kd.R_far (p := ⟨gb418, 2, none⟩) (Kd.R_far (p := ⟨gb418, 1, none⟩) (Kd.R_far (p := ⟨gb418, 0, none⟩) (Kd.R_types HO_396003.out BK418.out (by decide)) (fun _ hk => hk.2) (.int .i64 t411)) (fun _ hk => hk.2) (.int .i64 t412)) (fun _ hk => hk.2) (.int .i64 t413)) (fun _ hk => hk.2) (.slice Ao71 t414.length co71)) (fun _ hk => ⟨hk.1.1, hk.1.2⟩)⟩, ⟨by (with_reducible repeat (first | apply Kd.R_alloc | apply Kd.R_drewN | apply Kd.R_drew)); exact Kd.R_mono (Kd.R_far (p := ⟨gb418, 3, none⟩) (Kd.R_far (p := ⟨gb418, 2, none⟩) (Kd.R_far (p := ⟨gb418, 1, none⟩) (Kd.R_far (p := ⟨gb418, 0, none⟩) (Kd.R_types HO416.out BK418.out (by decide)) (fun _ hk => hk.2) (.int .i64 t411)) (fun _ hk => hk.2) (.int .i64 t412)) (fun _ hk => hk.2) (.int .i64 t413)) (fun _ hk => hk.2) (.slice Ao71 t414.length co71)) (fun _ hk => ⟨hk.1.1.1, hk.1.2⟩)⟩, ⟨by (with_reducible repeat (first | refine blk_drewN ?_ _ | refine blk_drew ?_ | refine blk_alloc ?_ _)); refine blk_far ?_ NB382_418.out _; (with_reducible repeat (first | refine blk_drewN ?_ _ | refine blk_drew ?_ | refine blk_alloc ?_ _)); refine blk_far ?_ NB382_418.out _; (with_reducible repeat (first | refine blk_drewN ?_ _ | refine blk_drew ?_ | refine blk_alloc ?_ _)); refine blk_far ?_ NB382_418.out _; (with_reducible repeat (first | refine blk_drewN ?_ _ | refine blk_drew ?_ | refine blk_alloc ?_ _)); refine blk_far ?_ NB382_418.out _; (with_reducible repeat (first | refine blk_drewN ?_ _ | refine blk_drew ?_ | refine blk_alloc ?_ _)); exact BK382.out⟩, ⟨by (with_reducible repeat (first | refine blk_drewN ?_ _ | refine blk_drew ?_ | refine blk_alloc ?_ _)); refine blk_far ?_ NB395_418.out _; (with_reducible repeat (first | refine blk_drewN ?_ _ | refine blk_drew ?_ | refine blk_alloc ?_ _)); refine blk_far ?_ NB395_418.out _; (with_reducible repeat (first | refine blk_drewN ?_ _ | refine blk_drew ?_ | refine blk_alloc ?_ _)); refine blk_far ?_ NB395_418.out _; (with_reducible repeat (first | refine blk_drewN ?_ _ | refine blk_drew ?_ | refine blk_alloc ?_ _)); refine blk_far ?_ NB395_418.out _; (with_reducible repeat (first | refine blk_drewN ?_ _ | refine blk_drew ?_ | refine blk_alloc ?_ _)); exact BK395.out⟩, ⟨by (with_reducible repeat (first | refine blk_drewN ?_ _ | refine blk_drew ?_ | refine blk_alloc ?_ _)); refine blk_put (cs := #[.int .i64 t411, .int .i64 t412, .int .i64 t413, .slice none 0 0]) ?_ 3 _ rfl; (with_reducible repeat (first | refine blk_drewN ?_ _ | refine blk_drew ?_ | refine blk_alloc ?_ _)); refine blk_put (cs := #[.int .i64 t411, .int .i64 t412, .int .i64 0, .slice none 0 0]) ?_ 2 _ rfl; (with_reducible repeat (first | refine blk_drewN ?_ _ | refine blk_drew ?_ | refine blk_alloc ?_ _)); refine blk_put (cs := #[.int .i64 t411, .int .i64 0, .int .i64 0, .slice none 0 0]) ?_ 1 _ rfl; (with_reducible repeat (first | refine blk_drewN ?_ _ | refine blk_drew ?_ | refine blk_alloc ?_ _)); refine blk_put (cs := #[.int .i64 0, .int .i64 0, .int .i64 0, .slice none 0 0]) ?_ 0 _ rfl; (with_reducible repeat (first | refine blk_drewN ?_ _ | refine blk_drew ?_ | refine blk_alloc ?_ _)); exact BK418.out⟩, ⟨by repeat (first | (with_reducible first | exact HB.out | apply below_alloc | apply pw_below_drewN | apply below_drew1 | refine below_set ?_ GE382.out | refine below_set ?_ GE395.out | refine below_set ?_ GE418.out) | exact HB.out)⟩⟩
                            · rw [if_neg c73] at H
                              have c73b0 : decide (a1_1 < t389) = false := decide_eq_false c73
                              clear c73
                              (first | rw [c73b0] | (simp only [i64_w, i32_w]; rw [c73b0]) | skip)
                              by_cases c79 : a1_1 = t389
                              · rw [if_pos c79] at H
                                have c79b0 : (a1_1 == t389) = true := beq_iff_eq.mpr c79
                                have c79b1 : (a1_1 != t389) = false := bne_eq_false_iff_eq.mpr c79
                                clear c79
                                have H' := Aside0.mk H
                                clear H
                                have hnb80 := NB382_395.out
                                have hnc80 := NB395_382.out
                                have hnb81 := NB382_418.out
                                have hnc81 := NB418_382.out
                                have hcz82_0 : w67.cell? ⟨gb382, 0, none⟩ = some (.int .i64 a1_0) := (blk_cell BK382.out 0).trans rfl
                                have hcz82_1 : w67.cell? ⟨gb382, 1, none⟩ = some (.int .i64 a1_1) := (blk_cell BK382.out 1).trans rfl
                                have hcz82_2 : w67.cell? ⟨gb382, 2, none⟩ = some (.int .i64 a1_2) := (blk_cell BK382.out 2).trans rfl
                                have hcz82_3 : w67.cell? ⟨gb382, 3, none⟩ = some (.slice A1_3 l1_3.length c1_3) := (blk_cell BK382.out 3).trans rfl
                                have hfz82_0 := blk_frozen BK382.out 0
                                have hfz82_1 := blk_frozen BK382.out 1
                                have hfz82_2 := blk_frozen BK382.out 2
                                have hfz82_3 := blk_frozen BK382.out 3
                                have hnb83 := NB395_418.out
                                have hnc83 := NB418_395.out
                                have hcz84_0 : w67.cell? ⟨gb395, 0, none⟩ = some (.int .i64 t388) := (blk_cell BK395.out 0).trans rfl
                                have hcz84_1 : w67.cell? ⟨gb395, 1, none⟩ = some (.int .i64 t389) := (blk_cell BK395.out 1).trans rfl
                                have hcz84_2 : w67.cell? ⟨gb395, 2, none⟩ = some (.int .i64 t390) := (blk_cell BK395.out 2).trans rfl
                                have hcz84_3 : w67.cell? ⟨gb395, 3, none⟩ = some (.slice Ao28 t391.length co28) := (blk_cell BK395.out 3).trans rfl
                                have hfz84_0 := blk_frozen BK395.out 0
                                have hfz84_1 := blk_frozen BK395.out 1
                                have hfz84_2 := blk_frozen BK395.out 2
                                have hfz84_3 := blk_frozen BK395.out 3
                                go_wp2
                                go_meet
                                case rel => exact ⟨_, (decide ((l1_3.length : Int) ≤ (t391.length : Int))), (by first | rfl | (simp; done) | (simp [*]; done)), H', ⟨by have := HJ2.out; have := HK2.out; have := HK3.out; first | omega | exact Nat.le_refl _⟩, ⟨by (with_reducible repeat (first | apply Kd.V_alloc | apply Kd.V_drewN | apply Kd.V_drew)); exact Kd.V_mono (Kd.V_far (p := ⟨gb418, 3, none⟩) (Kd.V_far (p := ⟨gb418, 2, none⟩) (Kd.V_far (p := ⟨gb418, 1, none⟩) (Kd.V_far (p := ⟨gb418, 0, none⟩) (Kd.V_mono HO_0.out (fun k_ hk => (⟨hk, hk.2⟩ : _ ∧ k_ ≠ gb418))) (fun _ hk => hk.2) (.int .i64 t411)) (fun _ hk => hk.2) (.int .i64 t412)) (fun _ hk => hk.2) (.int .i64 t413)) (fun _ hk => hk.2) (.slice Ao71 t414.length co71)) (fun _ hk => ⟨hk.1.1.1.1.1, ⟨hk.1.1.1.1.2.2.1, ⟨hk.1.1.2, ⟨hk.1.1.1.1.2.2.2.1, ⟨hk.1.1.1.1.2.2.2.2, hk.1.2⟩⟩⟩⟩⟩)⟩, ⟨by (with_reducible repeat (first | apply Kd.V_alloc | apply Kd.V_drewN | apply Kd.V_drew)); exact Kd.V_mono (Kd.V_far (p := ⟨gb418, 3, none⟩) (Kd.V_far (p := ⟨gb418, 2, none⟩) (Kd.V_far (p := ⟨gb418, 1, none⟩) (Kd.V_far (p := ⟨gb418, 0, none⟩) (Kd.V_mono HO_383003.out (fun k_ hk => (⟨hk, hk.2⟩ : _ ∧ k_ ≠ gb418))) (fun _ hk => hk.2) (.int .i64 t411)) (fun _ hk => hk.2) (.int .i64 t412)) (fun _ hk => hk.2) (.int .i64 t413)) (fun _ hk => hk.2) (.slice Ao71 t414.length co71)) (fun _ hk => ⟨hk.1.1.1.1.1, ⟨hk.1.1.1.1.2.2.1, ⟨hk.1.1.2, ⟨hk.1.1.1.1.2.2.2.1, ⟨hk.1.1.1.1.2.2.2.2, hk.1.2⟩⟩⟩⟩⟩)⟩, ⟨by (with_reducible repeat (first | apply Kd.R_alloc | apply Kd.R_drewN | apply Kd.R_drew)); exact Kd.R_mono (Kd.R_far (p := ⟨gb418, 3, none⟩) (Kd.R_far (p := ⟨gb418, 2, none⟩) (Kd.R_far (p := ⟨gb418, 1, none⟩) (Kd.R_far (p := ⟨gb418, 0, none⟩) (Kd.R_types HO_396003.out BK418.out (by decide)) (fun _ hk => hk.2) (.int .i64 t411)) (fun _ hk => hk.2) (.int .i64 t412)) (fun _ hk => hk.2) (.int .i64 t413)) (fun _ hk => hk.2) (.slice Ao71 t414.length co71)) (fun _ hk => ⟨hk.1.1, hk.1.2⟩)⟩, ⟨by (with_reducible repeat (first | apply Kd.R_alloc | apply Kd.R_drewN | apply Kd.R_drew)); exact Kd.R_mono (Kd.R_far (p := ⟨gb418, 3, none⟩) (Kd.R_far (p := ⟨gb418, 2, none⟩) (Kd.R_far (p := ⟨gb418, 1, none⟩) (Kd.R_far (p := ⟨gb418, 0, none⟩) (Kd.R_types HO416.out BK418.out (by decide)) (fun _ hk => hk.2) (.int .i64 t411)) (fun _ hk => hk.2) (.int .i64 t412)) (fun _ hk => hk.2) (.int .i64 t413)) (fun _ hk => hk.2) (.slice Ao71 t414.length co71)) (fun _ hk => ⟨hk.1.1.1, hk.1.2⟩)⟩, ⟨by (with_reducible repeat (first | refine blk_drewN ?_ _ | refine blk_drew ?_ | refine blk_alloc ?_ _)); refine blk_far ?_ NB382_418.out _; (with_reducible repeat (first | refine blk_drewN ?_ _ | refine blk_drew ?_ | refine blk_alloc ?_ _)); refine blk_far ?_ NB382_418.out _; (with_reducible repeat (first | refine blk_drewN ?_ _ | refine blk_drew ?_ | refine blk_alloc ?_ _)); refine blk_far ?_ NB382_418.out _; (with_reducible repeat (first | refine blk_drewN ?_ _ | refine blk_drew ?_ | refine blk_alloc ?_ _)); refine blk_far ?_ NB382_418.out _; (with_reducible repeat (first | refine blk_drewN ?_ _ | refine blk_drew ?_ | refine blk_alloc ?_ _)); exact BK382.out⟩, ⟨by (with_reducible repeat (first | refine blk_drewN ?_ _ | refine blk_drew ?_ | refine blk_alloc ?_ _)); refine blk_far ?_ NB395_418.out _; (with_reducible repeat (first | refine blk_drewN ?_ _ | refine blk_drew ?_ | refine blk_alloc ?_ _)); refine blk_far ?_ NB395_418.out _; (with_reducible repeat (first | refine blk_drewN ?_ _ | refine blk_drew ?_ | refine blk_alloc ?_ _)); refine blk_far ?_ NB395_418.out _; (with_reducible repeat (first | refine blk_drewN ?_ _ | refine blk_drew ?_ | refine blk_alloc ?_ _)); refine blk_far ?_ NB395_418.out _; (with_reducible repeat (first | refine blk_drewN ?_ _ | refine blk_drew ?_ | refine blk_alloc ?_ _)); exact BK395.out⟩, ⟨by (with_reducible repeat (first | refine blk_drewN ?_ _ | refine blk_drew ?_ | refine blk_alloc ?_ _)); refine blk_put (cs := #[.int .i64 t411, .int .i64 t412, .int .i64 t413, .slice none 0 0]) ?_ 3 _ rfl; (with_reducible repeat (first | refine blk_drewN ?_ _ | refine blk_drew ?_ | refine blk_alloc ?_ _)); refine blk_put (cs := #[.int .i64 t411, .int .i64 t412, .int .i64 0, .slice none 0 0]) ?_ 2 _ rfl; (with_reducible repeat (first | refine blk_drewN ?_ _ | refine blk_drew ?_ | refine blk_alloc ?_ _)); refine blk_put (cs := #[.int .i64 t411, .int .i64 0, .int .i64 0, .slice none 0 0]) ?_ 1 _ rfl; (with_reducible repeat (first | refine blk_drewN ?_ _ | refine blk_drew ?_ | refine blk_alloc ?_ _)); refine blk_put (cs := #[.int .i64 0, .int .i64 0, .int .i64 0, .slice none 0 0]) ?_ 0 _ rfl; (with_reducible repeat (first | refine blk_drewN ?_ _ | refine blk_drew ?_ | refine blk_alloc ?_ _)); exact BK418.out⟩, ⟨by repeat (first | (with_reducible first | exact HB.out | apply below_alloc | apply pw_below_drewN | apply below_drew1 | refine below_set ?_ GE382.out | refine below_set ?_ GE395.out | refine below_set ?_ GE418.out) | exact HB.out)⟩⟩
                              · rw [if_neg c79] at H
                                have c79b0 : (a1_1 == t389) = false := beq_eq_false_iff_ne.mpr c79
                                have c79b1 : (a1_1 != t389) = true := bne_iff_ne.mpr c79
                                have H' := Aside0.mk H
                                clear H
                                have hnb85 := NB382_395.out
                                have hnc85 := NB395_382.out
                                have hnb86 := NB382_418.out
                                have hnc86 := NB418_382.out
                                have hcz87_0 : w67.cell? ⟨gb382, 0, none⟩ = some (.int .i64 a1_0) := (blk_cell BK382.out 0).trans rfl
                                have hcz87_1 : w67.cell? ⟨gb382, 1, none⟩ = some (.int .i64 a1_1) := (blk_cell BK382.out 1).trans rfl
                                have hcz87_2 : w67.cell? ⟨gb382, 2, none⟩ = some (.int .i64 a1_2) := (blk_cell BK382.out 2).trans rfl
                                have hcz87_3 : w67.cell? ⟨gb382, 3, none⟩ = some (.slice A1_3 l1_3.length c1_3) := (blk_cell BK382.out 3).trans rfl
                                have hfz87_0 := blk_frozen BK382.out 0
                                have hfz87_1 := blk_frozen BK382.out 1
                                have hfz87_2 := blk_frozen BK382.out 2
                                have hfz87_3 := blk_frozen BK382.out 3
                                have hnb88 := NB395_418.out
                                have hnc88 := NB418_395.out
                                have hcz89_0 : w67.cell? ⟨gb395, 0, none⟩ = some (.int .i64 t388) := (blk_cell BK395.out 0).trans rfl
                                have hcz89_1 : w67.cell? ⟨gb395, 1, none⟩ = some (.int .i64 t389) := (blk_cell BK395.out 1).trans rfl
                                have hcz89_2 : w67.cell? ⟨gb395, 2, none⟩ = some (.int .i64 t390) := (blk_cell BK395.out 2).trans rfl
                                have hcz89_3 : w67.cell? ⟨gb395, 3, none⟩ = some (.slice Ao28 t391.length co28) := (blk_cell BK395.out 3).trans rfl
                                have hfz89_0 := blk_frozen BK395.out 0
                                have hfz89_1 := blk_frozen BK395.out 1
                                have hfz89_2 := blk_frozen BK395.out 2
                                have hfz89_3 := blk_frozen BK395.out 3
                                go_wp2
                                go_meet
                                case rel => exact ⟨_, (false), (by first | rfl | (simp; done) | (simp [*]; done)), H', ⟨by have := HJ2.out; have := HK2.out; have := HK3.out; first | omega | exact Nat.le_refl _⟩, ⟨by (with_reducible repeat (first | apply Kd.V_alloc | apply Kd.V_drewN | apply Kd.V_drew)); exact Kd.V_mono (Kd.V_far (p := ⟨gb418, 3, none⟩) (Kd.V_far (p := ⟨gb418, 2, none⟩) (Kd.V_far (p := ⟨gb418, 1, none⟩) (Kd.V_far (p := ⟨gb418, 0, none⟩) (Kd.V_mono HO_0.out (fun k_ hk => (⟨hk, hk.2⟩ : _ ∧ k_ ≠ gb418))) (fun _ hk => hk.2) (.int .i64 t411)) (fun _ hk => hk.2) (.int .i64 t412)) (fun _ hk => hk.2) (.int .i64 t413)) (fun _ hk => hk.2) (.slice Ao71 t414.length co71)) (fun _ hk => ⟨hk.1.1.1.1.1, ⟨hk.1.1.1.1.2.2.1, ⟨hk.1.1.2, ⟨hk.1.1.1.1.2.2.2.1, ⟨hk.1.1.1.1.2.2.2.2, hk.1.2⟩⟩⟩⟩⟩)⟩, ⟨by (with_reducible repeat (first | apply Kd.V_alloc | apply Kd.V_drewN | apply Kd.V_drew)); exact Kd.V_mono (Kd.V_far (p := ⟨gb418, 3, none⟩) (Kd.V_far (p := ⟨gb418, 2, none⟩) (Kd.V_far (p := ⟨gb418, 1, none⟩) (Kd.V_far (p := ⟨gb418, 0, none⟩) (Kd.V_mono HO_383003.out (fun k_ hk => (⟨hk, hk.2⟩ : _ ∧ k_ ≠ gb418))) (fun _ hk => hk.2) (.int .i64 t411)) (fun _ hk => hk.2) (.int .i64 t412)) (fun _ hk => hk.2) (.int .i64 t413)) (fun _ hk => hk.2) (.slice Ao71 t414.length co71)) (fun _ hk => ⟨hk.1.1.1.1.1, ⟨hk.1.1.1.1.2.2.1, ⟨hk.1.1.2, ⟨hk.1.1.1.1.2.2.2.1, ⟨hk.1.1.1.1.2.2.2.2, hk.1.2⟩⟩⟩⟩⟩)⟩, ⟨by (with_reducible repeat (first | apply Kd.R_alloc | apply Kd.R_drewN | apply Kd.R_drew)); exact Kd.R_mono (Kd.R_far (p := ⟨gb418, 3, none⟩) (Kd.R_far (p := ⟨gb418, 2, none⟩) (Kd.R_far (p := ⟨gb418, 1, none⟩) (Kd.R_far (p := ⟨gb418, 0, none⟩) (Kd.R_types HO_396003.out BK418.out (by decide)) (fun _ hk => hk.2) (.int .i64 t411)) (fun _ hk => hk.2) (.int .i64 t412)) (fun _ hk => hk.2) (.int .i64 t413)) (fun _ hk => hk.2) (.slice Ao71 t414.length co71)) (fun _ hk => ⟨hk.1.1, hk.1.2⟩)⟩, ⟨by (with_reducible repeat (first | apply Kd.R_alloc | apply Kd.R_drewN | apply Kd.R_drew)); exact Kd.R_mono (Kd.R_far (p := ⟨gb418, 3, none⟩) (Kd.R_far (p := ⟨gb418, 2, none⟩) (Kd.R_far (p := ⟨gb418, 1, none⟩) (Kd.R_far (p := ⟨gb418, 0, none⟩) (Kd.R_types HO416.out BK418.out (by decide)) (fun _ hk => hk.2) (.int .i64 t411)) (fun _ hk => hk.2) (.int .i64 t412)) (fun _ hk => hk.2) (.int .i64 t413)) (fun _ hk => hk.2) (.slice Ao71 t414.length co71)) (fun _ hk => ⟨hk.1.1.1, hk.1.2⟩)⟩, ⟨by (with_reducible repeat (first | refine blk_drewN ?_ _ | refine blk_drew ?_ | refine blk_alloc ?_ _)); refine blk_far ?_ NB382_418.out _; (with_reducible repeat (first | refine blk_drewN ?_ _ | refine blk_drew ?_ | refine blk_alloc ?_ _)); refine blk_far ?_ NB382_418.out _; (with_reducible repeat (first | refine blk_drewN ?_ _ | refine blk_drew ?_ | refine blk_alloc ?_ _)); refine blk_far ?_ NB382_418.out _; (with_reducible repeat (first | refine blk_drewN ?_ _ | refine blk_drew ?_ | refine blk_alloc ?_ _)); refine blk_far ?_ NB382_418.out _; (with_reducible repeat (first | refine blk_drewN ?_ _ | refine blk_drew ?_ | refine blk_alloc ?_ _)); exact BK382.out⟩, ⟨by (with_reducible repeat (first | refine blk_drewN ?_ _ | refine blk_drew ?_ | refine blk_alloc ?_ _)); refine blk_far ?_ NB395_418.out _; (with_reducible repeat (first | refine blk_drewN ?_ _ | refine blk_drew ?_ | refine blk_alloc ?_ _)); refine blk_far ?_ NB395_418.out _; (with_reducible repeat (first | refine blk_drewN ?_ _ | refine blk_drew ?_ | refine blk_alloc ?_ _)); refine blk_far ?_ NB395_418.out _; (with_reducible repeat (first | refine blk_drewN ?_ _ | refine blk_drew ?_ | refine blk_alloc ?_ _)); refine blk_far ?_ NB395_418.out _; (with_reducible repeat (first | refine blk_drewN ?_ _ | refine blk_drew ?_ | refine blk_alloc ?_ _)); exact BK395.out⟩, ⟨by (with_reducible repeat (first | refine blk_drewN ?_ _ | refine blk_drew ?_ | refine blk_alloc ?_ _)); refine blk_put (cs := #[.int .i64 t411, .int .i64 t412, .int .i64 t413, .slice none 0 0]) ?_ 3 _ rfl; (with_reducible repeat (first | refine blk_drewN ?_ _ | refine blk_drew ?_ | refine blk_alloc ?_ _)); refine blk_put (cs := #[.int .i64 t411, .int .i64 t412, .int .i64 0, .slice none 0 0]) ?_ 2 _ rfl; (with_reducible repeat (first | refine blk_drewN ?_ _ | refine blk_drew ?_ | refine blk_alloc ?_ _)); refine blk_put (cs := #[.int .i64 t411, .int .i64 0, .int .i64 0, .slice none 0 0]) ?_ 1 _ rfl; (with_reducible repeat (first | refine blk_drewN ?_ _ | refine blk_drew ?_ | refine blk_alloc ?_ _)); refine blk_put (cs := #[.int .i64 0, .int .i64 0, .int .i64 0, .slice none 0 0]) ?_ 0 _ rfl; (with_reducible repeat (first | refine blk_drewN ?_ _ | refine blk_drew ?_ | refine blk_alloc ?_ _)); exact BK418.out⟩, ⟨by repeat (first | (with_reducible first | exact HB.out | apply below_alloc | apply pw_below_drewN | apply below_drew1 | refine below_set ?_ GE382.out | refine below_set ?_ GE395.out | refine below_set ?_ GE418.out) | exact HB.out)⟩⟩
                          · replace c72 := Bool.eq_false_iff.mpr c72
                            subst c72
                            have H1 : (watchmanlaw23_LogBest.j4 k3 l0 false x7_2 x10_3 t417 false a1_0 a1_1 a1_2 l1_3 t388 t389 t390 t391 t411 t412 t413 t414) = some r := by rw [if_neg (show ¬ (false = true) by decide)] at H; exact H
                            clear H
                            have H := H1
                            clear H1
                            have H' := Aside0.mk H
                            clear H
                            go_wp2
                            go_meet
                            case rel => exact ⟨_, (false), (by first | rfl | (simp; done) | (simp [*]; done)), H', ⟨by have := HJ2.out; have := HK2.out; have := HK3.out; first | omega | exact Nat.le_refl _⟩, ⟨by (with_reducible repeat (first | apply Kd.V_alloc | apply Kd.V_drewN | apply Kd.V_drew)); exact Kd.V_mono (Kd.V_far (p := ⟨gb418, 3, none⟩) (Kd.V_far (p := ⟨gb418, 2, none⟩) (Kd.V_far (p := ⟨gb418, 1, none⟩) (Kd.V_far (p := ⟨gb418, 0, none⟩) (Kd.V_mono HO_0.out (fun k_ hk => (⟨hk, hk.2⟩ : _ ∧ k_ ≠ gb418))) (fun _ hk => hk.2) (.int .i64 t411)) (fun _ hk => hk.2) (.int .i64 t412)) (fun _ hk => hk.2) (.int .i64 t413)) (fun _ hk => hk.2) (.slice Ao71 t414.length co71)) (fun _ hk => ⟨hk.1.1.1.1.1, ⟨hk.1.1.1.1.2.2.1, ⟨hk.1.1.2, ⟨hk.1.1.1.1.2.2.2.1, ⟨hk.1.1.1.1.2.2.2.2, hk.1.2⟩⟩⟩⟩⟩)⟩, ⟨by (with_reducible repeat (first | apply Kd.V_alloc | apply Kd.V_drewN | apply Kd.V_drew)); exact Kd.V_mono (Kd.V_far (p := ⟨gb418, 3, none⟩) (Kd.V_far (p := ⟨gb418, 2, none⟩) (Kd.V_far (p := ⟨gb418, 1, none⟩) (Kd.V_far (p := ⟨gb418, 0, none⟩) (Kd.V_mono HO_383003.out (fun k_ hk => (⟨hk, hk.2⟩ : _ ∧ k_ ≠ gb418))) (fun _ hk => hk.2) (.int .i64 t411)) (fun _ hk => hk.2) (.int .i64 t412)) (fun _ hk => hk.2) (.int .i64 t413)) (fun _ hk => hk.2) (.slice Ao71 t414.length co71)) (fun _ hk => ⟨hk.1.1.1.1.1, ⟨hk.1.1.1.1.2.2.1, ⟨hk.1.1.2, ⟨hk.1.1.1.1.2.2.2.1, ⟨hk.1.1.1.1.2.2.2.2, hk.1.2⟩⟩⟩⟩⟩)⟩, ⟨by (with_reducible repeat (first | apply Kd.R_alloc | apply Kd.R_drewN | apply Kd.R_drew)); exact Kd.R_mono (Kd.R_far (p := ⟨gb418, 3, none⟩) (Kd.R_far (p := ⟨gb418, 2, none⟩) (Kd.R_far (p := ⟨gb418, 1, none⟩) (Kd.R_far (p := ⟨gb418, 0, none⟩) (Kd.R_types HO_396003.out BK418.out (by decide)) (fun _ hk => hk.2) (.int .i64 t411)) (fun _ hk => hk.2) (.int .i64 t412)) (fun _ hk => hk.2) (.int .i64 t413)) (fun _ hk => hk.2) (.slice Ao71 t414.length co71)) (fun _ hk => ⟨hk.1.1, hk.1.2⟩)⟩, ⟨by (with_reducible repeat (first | apply Kd.R_alloc | apply Kd.R_drewN | apply Kd.R_drew)); exact Kd.R_mono (Kd.R_far (p := ⟨gb418, 3, none⟩) (Kd.R_far (p := ⟨gb418, 2, none⟩) (Kd.R_far (p := ⟨gb418, 1, none⟩) (Kd.R_far (p := ⟨gb418, 0, none⟩) (Kd.R_types HO416.out BK418.out (by decide)) (fun _ hk => hk.2) (.int .i64 t411)) (fun _ hk => hk.2) (.int .i64 t412)) (fun _ hk => hk.2) (.int .i64 t413)) (fun _ hk => hk.2) (.slice Ao71 t414.length co71)) (fun _ hk => ⟨hk.1.1.1, hk.1.2⟩)⟩, ⟨by (with_reducible repeat (first | refine blk_drewN ?_ _ | refine blk_drew ?_ | refine blk_alloc ?_ _)); refine blk_far ?_ NB382_418.out _; (with_reducible repeat (first | refine blk_drewN ?_ _ | refine blk_drew ?_ | refine blk_alloc ?_ _)); refine blk_far ?_ NB382_418.out _; (with_reducible repeat (first | refine blk_drewN ?_ _ | refine blk_drew ?_ | refine blk_alloc ?_ _)); refine blk_far ?_ NB382_418.out _; (with_reducible repeat (first | refine blk_drewN ?_ _ | refine blk_drew ?_ | refine blk_alloc ?_ _)); refine blk_far ?_ NB382_418.out _; (with_reducible repeat (first | refine blk_drewN ?_ _ | refine blk_drew ?_ | refine blk_alloc ?_ _)); exact BK382.out⟩, ⟨by (with_reducible repeat (first | refine blk_drewN ?_ _ | refine blk_drew ?_ | refine blk_alloc ?_ _)); refine blk_far ?_ NB395_418.out _; (with_reducible repeat (first | refine blk_drewN ?_ _ | refine blk_drew ?_ | refine blk_alloc ?_ _)); refine blk_far ?_ NB395_418.out _; (with_reducible repeat (first | refine blk_drewN ?_ _ | refine blk_drew ?_ | refine blk_alloc ?_ _)); refine blk_far ?_ NB395_418.out _; (with_reducible repeat (first | refine blk_drewN ?_ _ | refine blk_drew ?_ | refine blk_alloc ?_ _)); refine blk_far ?_ NB395_418.out _; (with_reducible repeat (first | refine blk_drewN ?_ _ | refine blk_drew ?_ | refine blk_alloc ?_ _)); exact BK395.out⟩, ⟨by (with_reducible repeat (first | refine blk_drewN ?_ _ | refine blk_drew ?_ | refine blk_alloc ?_ _)); refine blk_put (cs := #[.int .i64 t411, .int .i64 t412, .int .i64 t413, .slice none 0 0]) ?_ 3 _ rfl; (with_reducible repeat (first | refine blk_drewN ?_ _ | refine blk_drew ?_ | refine blk_alloc ?_ _)); refine blk_put (cs := #[.int .i64 t411, .int .i64 t412, .int .i64 0, .slice none 0 0]) ?_ 2 _ rfl; (with_reducible repeat (first | refine blk_drewN ?_ _ | refine blk_drew ?_ | refine blk_alloc ?_ _)); refine blk_put (cs := #[.int .i64 t411, .int .i64 0, .int .i64 0, .slice none 0 0]) ?_ 1 _ rfl; (with_reducible repeat (first | refine blk_drewN ?_ _ | refine blk_drew ?_ | refine blk_alloc ?_ _)); refine blk_put (cs := #[.int .i64 0, .int .i64 0, .int .i64 0, .slice none 0 0]) ?_ 0 _ rfl; (with_reducible repeat (first | refine blk_drewN ?_ _ | refine blk_drew ?_ | refine blk_alloc ?_ _)); exact BK418.out⟩, ⟨by repeat (first | (with_reducible first | exact HB.out | apply below_alloc | apply pw_below_drewN | apply below_drew1 | refine below_set ?_ GE382.out | refine below_set ?_ GE395.out | refine below_set ?_ GE418.out) | exact HB.out)⟩⟩
                        case rest =>
                          clear HC59
                          try clear c1
                          try clear c2
                          try clear p2
                          try clear c3
                          try clear p3
                          try clear q3
                          try clear hx3
                          try clear c4
                          try clear p4
                          try clear q4
                          try clear hx4
                          try clear c5
                          try clear c6
                          try clear p6
                          try clear c7
                          try clear c8
                          try clear c21
                          try clear c23
                          try clear c25
                          try clear c29
                          try clear c29b0
                          try clear c31
                          try clear c34
                          try clear c34b0
                          try clear c34b1
                          try clear c37
                          try clear c38
                          try clear c39
                          try clear p39
                          try clear q39
                          try clear hx39
                          try clear c40
                          try clear c40b0
                          try clear p40
                          try clear q40
                          try clear hx40
                          try clear c41
                          try clear c41b0
                          try clear c46
                          try clear c49
                          try clear c49b0
                          try clear c50
                          try clear c50b0
                          try clear c51
                          try clear c51b0
                          try clear c51b1
                          try clear c56
                          try clear c57
                          try clear c62
                          try clear p64
                          try clear c68
                          try clear c69
                          try clear c72
                          try clear c73
                          try clear c73b0
                          try clear c74
                          try clear c75
                          try clear c77
                          try clear c79
                          try clear c79b0
                          try clear c79b1
                          try clear c80
                          try clear c81
                          try clear c83
                          try clear c85
                          try clear c86
                          try clear c88
                          try clear hcz47_0
                          try clear hcz47_1
                          try clear hcz47_2
                          try clear hcz47_3
                          try clear hcz63_0
                          try clear hcz63_1
                          try clear hcz63_2
                          try clear hcz63_3
                          try clear hcz70_0
                          try clear hcz70_1
                          try clear hcz70_2
                          try clear hcz70_3
                          try clear hcz76_0
                          try clear hcz76_1
                          try clear hcz76_2
                          try clear hcz76_3
                          try clear hcz78_0
                          try clear hcz78_1
                          try clear hcz78_2
                          try clear hcz78_3
                          try clear hcz82_0
                          try clear hcz82_1
                          try clear hcz82_2
                          try clear hcz82_3
                          try clear hcz84_0
                          try clear hcz84_1
                          try clear hcz84_2
                          try clear hcz84_3
                          try clear hcz87_0
                          try clear hcz87_1
                          try clear hcz87_2
                          try clear hcz87_3
                          try clear hcz89_0
                          try clear hcz89_1
                          try clear hcz89_2
                          try clear hcz89_3
                          try clear hfz47_0
                          try clear hfz47_1
                          try clear hfz47_2
                          try clear hfz47_3
                          try clear hfz63_0
                          try clear hfz63_1
                          try clear hfz63_2
                          try clear hfz63_3
                          try clear hfz70_0
                          try clear hfz70_1
                          try clear hfz70_2
                          try clear hfz70_3
                          try clear hfz76_0
                          try clear hfz76_1
                          try clear hfz76_2
                          try clear hfz76_3
                          try clear hfz78_0
                          try clear hfz78_1
                          try clear hfz78_2
                          try clear hfz78_3
                          try clear hfz82_0
                          try clear hfz82_1
                          try clear hfz82_2
                          try clear hfz82_3
                          try clear hfz84_0
                          try clear hfz84_1
                          try clear hfz84_2
                          try clear hfz84_3
                          try clear hfz87_0
                          try clear hfz87_1
                          try clear hfz87_2
                          try clear hfz87_3
                          try clear hfz89_0
                          try clear hfz89_1
                          try clear hfz89_2
                          try clear hfz89_3
                          try clear hx396_0
                          try clear hx396_1
                          try clear hx396_2
                          try clear hx396_3
                          try clear hx397_0
                          try clear hx397_1
                          try clear hx397_2
                          try clear hx397_3
                          try clear hx398_0
                          try clear hx398_1
                          try clear hx398_2
                          try clear hx398_3
                          try clear hx399_0
                          try clear hx399_1
                          try clear hx399_2
                          try clear hx399_3
                          try clear hx404_0
                          try clear hx404_1
                          try clear hx404_2
                          try clear hx404_3
                          try clear p2
                          try clear p3
                          try clear p39
                          try clear p396
                          try clear p397
                          try clear p398
                          try clear p399
                          try clear p404
                          try clear p6
                          try clear q3
                          try clear q39
                          try clear q396
                          try clear q397
                          try clear q398
                          try clear q399
                          try clear q404
                          obtain ⟨kq, x15_58, rfl, HA, HJ58, HO_0, HO_383003, HO_396003, HO_419003, BK382, BK395, BK418, HB⟩ := hcut
                          cases kq with
                          | zero => exact absurd HA.out (by simp [watchmanlaw23_LogBest.j4])
                          | succ kj58 =>
                            have H := HA.out
                            clear HA
                            simp only [watchmanlaw23_LogBest.j4] at H
                            replace H := Option.bind_eq_some_iff.mp H
                            obtain ⟨t419, A900, H⟩ := H
                            replace H : (if t419 = true then (if (t394 == x7_2) = true then (if (t394 == (decide ((l0.length : Int) > 0))) = true then (if x10_3 = 1 then (if t417 = true then (if x15_58 = true then ((watchmanref23_SameVote.f kj58 t388 t389 t390 t391 t411 t412 t413 t414).bind fun t420 => (if t420 = true then (some true) else (none))) else ((watchmanref23_SameVote.f kj58 a1_0 a1_1 a1_2 l1_3 t411 t412 t413 t414).bind fun t421 => (some t421))) else (none)) else (none)) else (none)) else (none)) else (none)) = some r := H
                            have A90 := Aside0.mk A900
                            clear A900
                            by_cases c91 : t419 = true
                            · subst c91
                              have H1 : (if (t394 == x7_2) = true then (if (t394 == (decide ((l0.length : Int) > 0))) = true then (if x10_3 = 1 then (if t417 = true then (if x15_58 = true then ((watchmanref23_SameVote.f kj58 t388 t389 t390 t391 t411 t412 t413 t414).bind fun t420 => (if t420 = true then (some true) else (none))) else ((watchmanref23_SameVote.f kj58 a1_0 a1_1 a1_2 l1_3 t411 t412 t413 t414).bind fun t421 => (some t421))) else (none)) else (none)) else (none)) else (none)) = some r := by rw [if_pos rfl] at H; exact H
                              clear H
                              have H := H1
                              clear H1
                              by_cases c92 : (t394 == x7_2) = true
                              · rw [if_pos c92] at H
                                have c92b0 : (t394 == x7_2) = true := c92
                                (try (have c92b1 : decide (t394 = x7_2) = true := by simpa using c92))
                                (try (have c92b2 : (t394 == x7_2) = true := by simpa using c92))
                                clear c92
                                by_cases c93 : (t394 == (decide ((l0.length : Int) > 0))) = true
                                · rw [if_pos c93] at H
                                  have c93b0 : (t394 == (decide ((l0.length : Int) > 0))) = true := c93
                                  (try (have c93b1 : decide (t394 = (decide ((l0.length : Int) > 0))) = true := by simpa using c93))
                                  (try (have c93b2 : (t394 == (decide ((l0.length : Int) > 0))) = true := by simpa using c93))
                                  (try (have c93b3 : decide (t394 = decide (0 < l0.length)) = true := by simpa using c93))
                                  (try (have c93b4 : (t394 == decide (0 < l0.length)) = true := by simpa using c93))
                                  clear c93
                                  by_cases c94 : x10_3 = 1
                                  · rw [if_pos c94] at H
                                    have c94b0 : (x10_3 == 1) = true := beq_iff_eq.mpr c94
                                    have c94b1 : (x10_3 != 1) = false := bne_eq_false_iff_eq.mpr c94
                                    clear c94
                                    by_cases c95 : t417 = true
                                    · subst c95
                                      have H1 : (if x15_58 = true then ((watchmanref23_SameVote.f kj58 t388 t389 t390 t391 t411 t412 t413 t414).bind fun t420 => (if t420 = true then (some true) else (none))) else ((watchmanref23_SameVote.f kj58 a1_0 a1_1 a1_2 l1_3 t411 t412 t413 t414).bind fun t421 => (some t421))) = some r := by rw [if_pos rfl] at H; exact H
                                      clear H
                                      have H := H1
                                      clear H1
                                      by_cases c96 : x15_58 = true
                                      · subst c96
                                        have H1 : ((watchmanref23_SameVote.f kj58 t388 t389 t390 t391 t411 t412 t413 t414).bind fun t420 => (if t420 = true then (some true) else (none))) = some r := by rw [if_pos rfl] at H; exact H
                                        clear H
                                        have H := H1
                                        clear H1
                                        replace H := Option.bind_eq_some_iff.mp H
                                        obtain ⟨t420, A970, H⟩ := H
                                        replace H : (if t420 = true then (some true) else (none)) = some r := H
                                        have A97 := Aside0.mk A970
                                        clear A970
                                        by_cases c98 : t420 = true
                                        · subst c98
                                          have H1 : (some true) = some r := by rw [if_pos rfl] at H; exact H
                                          clear H
                                          have H := H1
                                          clear H1
                                          obtain rfl := Option.some.inj H
                                          go_wp2_with (first | ((with_reducible refine gate_callee (f := 11) rfl ?_); refine goesL_ (some 133) rfl rfl Try.func11 (by kernel_rfl) rfl #[] rfl (by (try simp only [List.map_toArray, List.map_cons, List.map_nil]); first | done | rfl | (simp only [List.length_drop, List.length_take]; rfl)) ?_; (with_reducible refine (watchmanlaw23_joined.calls kj58  true _ A90.out).mono ?_); rintro e w99 ⟨rfl, hb⟩; refine ⟨_, rfl, ?_⟩; have n0_ := Aside0.mk (Kd.V_below (by (with_reducible repeat (first | apply Kd.V_alloc | apply Kd.V_drewN | apply Kd.V_drew)); exact HO_0.out) hb); have n1_ := Aside0.mk (Kd.V_below (by (with_reducible repeat (first | apply Kd.V_alloc | apply Kd.V_drewN | apply Kd.V_drew)); exact HO_383003.out) hb); have n2_ := Aside0.mk (Kd.R_below (by (with_reducible repeat (first | apply Kd.R_alloc | apply Kd.R_drewN | apply Kd.R_drew)); exact HO_396003.out) hb); have n3_ := Aside0.mk (Kd.R_below (by (with_reducible repeat (first | apply Kd.R_alloc | apply Kd.R_drewN | apply Kd.R_drew)); exact HO_419003.out) hb); have n4_ := Aside0.mk (blk_below (g := gb382) (o := .cells #[.int .i64 a1_0, .int .i64 a1_1, .int .i64 a1_2, .slice A1_3 l1_3.length c1_3] 36 (0, 0)) (by (with_reducible repeat (first | refine blk_drewN ?_ _ | refine blk_drew ?_ | refine blk_alloc ?_ _)); exact BK382.out) hb); have n5_ := Aside0.mk (blk_below (g := gb395) (o := .cells #[.int .i64 t388, .int .i64 t389, .int .i64 t390, .slice Ao28 t391.length co28] 36 (0, 0)) (by (with_reducible repeat (first | refine blk_drewN ?_ _ | refine blk_drew ?_ | refine blk_alloc ?_ _)); exact BK395.out) hb); have n6_ := Aside0.mk (blk_below (g := gb418) (o := .cells #[.int .i64 t411, .int .i64 t412, .int .i64 t413, .slice Ao71 t414.length co71] 36 (0, 0)) (by (with_reducible repeat (first | refine blk_drewN ?_ _ | refine blk_drew ?_ | refine blk_alloc ?_ _)); exact BK418.out) hb); have n7_ := Aside0.mk (below_step (by repeat (first | (with_reducible first | exact HB.out | apply below_alloc | apply pw_below_drewN | apply below_drew1 | refine below_set ?_ GE382.out | refine below_set ?_ GE395.out | refine below_set ?_ GE418.out) | exact HB.out)) hb); clear HO_0; clear HO_383003; clear HO_396003; clear HO_419003; clear BK382; clear BK395; clear BK418; clear HB; have HO_0 := n0_; have HO_383003 := n1_; have HO_396003 := n2_; have HO_419003 := n3_; have BK382 := n4_; have BK395 := n5_; have BK418 := n6_; have HB := n7_; clear n0_ n1_ n2_ n3_ n4_ n5_ n6_ n7_; (try clear hb); (try clear hb2); (try clear hk); (try clear hi); have hnb100 := NB395_382.out; have hnc100 := NB382_395.out; have hnb101 := NB395_418.out; have hnc101 := NB418_395.out; have hcz102_0 : w99.cell? ⟨gb395, 0, none⟩ = some (.int .i64 t388) := (blk_cell BK395.out 0).trans rfl; have hcz102_1 : w99.cell? ⟨gb395, 1, none⟩ = some (.int .i64 t389) := (blk_cell BK395.out 1).trans rfl; have hcz102_2 : w99.cell? ⟨gb395, 2, none⟩ = some (.int .i64 t390) := (blk_cell BK395.out 2).trans rfl; have hcz102_3 : w99.cell? ⟨gb395, 3, none⟩ = some (.slice Ao28 t391.length co28) := (blk_cell BK395.out 3).trans rfl; have hfz102_0 := blk_frozen BK395.out 0; have hfz102_1 := blk_frozen BK395.out 1; have hfz102_2 := blk_frozen BK395.out 2; have hfz102_3 := blk_frozen BK395.out 3; have hnb103 := NB418_382.out; have hnc103 := NB382_418.out; have hcz104_0 : w99.cell? ⟨gb418, 0, none⟩ = some (.int .i64 t411) := (blk_cell BK418.out 0).trans rfl; have hcz104_1 : w99.cell? ⟨gb418, 1, none⟩ = some (.int .i64 t412) := (blk_cell BK418.out 1).trans rfl; have hcz104_2 : w99.cell? ⟨gb418, 2, none⟩ = some (.int .i64 t413) := (blk_cell BK418.out 2).trans rfl; have hcz104_3 : w99.cell? ⟨gb418, 3, none⟩ = some (.slice Ao71 t414.length co71) := (blk_cell BK418.out 3).trans rfl; have hfz104_0 := blk_frozen BK418.out 0; have hfz104_1 := blk_frozen BK418.out 1; have hfz104_2 := blk_frozen BK418.out 2; have hfz104_3 := blk_frozen BK418.out 3) | (go_at_call 25; (with_reducible refine (watchmanref23_SameVote.calls kj58 t388 t389 t390 _ _ t391 t411 t412 t413 _ _ t414 true _ ?side1 ?side2 ?side3 ?side4 A97.out).mono ?_); (case side1 => repeat (first | exact (Kd.R_reads' HO_396003.out).2.2 | (with_reducible refine Kd.C_alloc ?_ _) | (with_reducible refine Kd.C_drewN ?_ _) | (with_reducible refine Kd.C_drew ?_))); (case side2 => exact (Kd.R_reads' HO_396003.out).2.1); (case side3 => repeat (first | exact (Kd.R_reads' HO_419003.out).2.2 | (with_reducible refine Kd.C_alloc ?_ _) | (with_reducible refine Kd.C_drewN ?_ _) | (with_reducible refine Kd.C_drew ?_))); (case side4 => exact (Kd.R_reads' HO_419003.out).2.1); rintro e w105 ⟨rfl, hb⟩; have n0_ := Aside0.mk (Kd.V_below (by (with_reducible repeat (first | apply Kd.V_alloc | apply Kd.V_drewN | apply Kd.V_drew)); exact HO_0.out) hb); have n1_ := Aside0.mk (Kd.V_below (by (with_reducible repeat (first | apply Kd.V_alloc | apply Kd.V_drewN | apply Kd.V_drew)); exact HO_383003.out) hb); have n2_ := Aside0.mk (Kd.R_below (by (with_reducible repeat (first | apply Kd.R_alloc | apply Kd.R_drewN | apply Kd.R_drew)); exact HO_396003.out) hb); have n3_ := Aside0.mk (Kd.R_below (by (with_reducible repeat (first | apply Kd.R_alloc | apply Kd.R_drewN | apply Kd.R_drew)); exact HO_419003.out) hb); have n4_ := Aside0.mk (blk_below (g := gb382) (o := .cells #[.int .i64 a1_0, .int .i64 a1_1, .int .i64 a1_2, .slice A1_3 l1_3.length c1_3] 36 (0, 0)) (by (with_reducible repeat (first | refine blk_drewN ?_ _ | refine blk_drew ?_ | refine blk_alloc ?_ _)); exact BK382.out) hb); have n5_ := Aside0.mk (blk_below (g := gb395) (o := .cells #[.int .i64 t388, .int .i64 t389, .int .i64 t390, .slice Ao28 t391.length co28] 36 (0, 0)) (by (with_reducible repeat (first | refine blk_drewN ?_ _ | refine blk_drew ?_ | refine blk_alloc ?_ _)); exact BK395.out) hb); have n6_ := Aside0.mk (blk_below (g := gb418) (o := .cells #[.int .i64 t411, .int .i64 t412, .int .i64 t413, .slice Ao71 t414.length co71] 36 (0, 0)) (by (with_reducible repeat (first | refine blk_drewN ?_ _ | refine blk_drew ?_ | refine blk_alloc ?_ _)); exact BK418.out) hb); have n7_ := Aside0.mk (below_step (by repeat (first | (with_reducible first | exact HB.out | apply below_alloc | apply pw_below_drewN | apply below_drew1 | refine below_set ?_ GE382.out | refine below_set ?_ GE395.out | refine below_set ?_ GE418.out) | exact HB.out)) hb); clear HO_0; clear HO_383003; clear HO_396003; clear HO_419003; clear BK382; clear BK395; clear BK418; clear HB; have HO_0 := n0_; have HO_383003 := n1_; have HO_396003 := n2_; have HO_419003 := n3_; have BK382 := n4_; have BK395 := n5_; have BK418 := n6_; have HB := n7_; clear n0_ n1_ n2_ n3_ n4_ n5_ n6_ n7_; (try clear hb); (try clear hb2); (try clear hk); (try clear hi)))
                                          go_ret
                                          exact ⟨by first | rfl | (simp [errW_none, errW_some] <;> rfl) | (simp [*, errW_none, errW_some] <;> rfl), by repeat (first | (with_reducible first | exact HB.out | apply below_alloc | apply pw_below_drewN | apply below_drew1 | refine below_set ?_ GE382.out | refine below_set ?_ GE395.out | refine below_set ?_ GE418.out) | exact HB.out)⟩
                                        · replace c98 := Bool.eq_false_iff.mpr c98
                                          subst c98
                                          have H1 : (none) = some r := by rw [if_neg (show ¬ (false = true) by decide)] at H; exact H
                                          clear H
                                          have H := H1
                                          clear H1
                                          exact absurd H (by simp)
                                      · replace c96 := Bool.eq_false_iff.mpr c96
                                        subst c96
                                        have H1 : ((watchmanref23_SameVote.f kj58 a1_0 a1_1 a1_2 l1_3 t411 t412 t413 t414).bind fun t421 => (some t421)) = some r := by rw [if_neg (show ¬ (false = true) by decide)] at H; exact H
                                        clear H
                                        have H := H1
                                        clear H1
                                        replace H := Option.bind_eq_some_iff.mp H
                                        obtain ⟨t421, A1060, H⟩ := H
                                        replace H : (some t421) = some r := H
                                        have A106 := Aside0.mk A1060
                                        clear A1060
                                        obtain rfl := Option.some.inj H
                                        go_wp2_with (first | ((with_reducible refine gate_callee (f := 11) rfl ?_); refine goesL_ (some 133) rfl rfl Try.func11 (by kernel_rfl) rfl #[] rfl (by (try simp only [List.map_toArray, List.map_cons, List.map_nil]); first | done | rfl | (simp only [List.length_drop, List.length_take]; rfl)) ?_; (with_reducible refine (watchmanlaw23_joined.calls kj58  true _ A90.out).mono ?_); rintro e w107 ⟨rfl, hb⟩; refine ⟨_, rfl, ?_⟩; have n0_ := Aside0.mk (Kd.V_below (by (with_reducible repeat (first | apply Kd.V_alloc | apply Kd.V_drewN | apply Kd.V_drew)); exact HO_0.out) hb); have n1_ := Aside0.mk (Kd.V_below (by (with_reducible repeat (first | apply Kd.V_alloc | apply Kd.V_drewN | apply Kd.V_drew)); exact HO_383003.out) hb); have n2_ := Aside0.mk (Kd.R_below (by (with_reducible repeat (first | apply Kd.R_alloc | apply Kd.R_drewN | apply Kd.R_drew)); exact HO_396003.out) hb); have n3_ := Aside0.mk (Kd.R_below (by (with_reducible repeat (first | apply Kd.R_alloc | apply Kd.R_drewN | apply Kd.R_drew)); exact HO_419003.out) hb); have n4_ := Aside0.mk (blk_below (g := gb382) (o := .cells #[.int .i64 a1_0, .int .i64 a1_1, .int .i64 a1_2, .slice A1_3 l1_3.length c1_3] 36 (0, 0)) (by (with_reducible repeat (first | refine blk_drewN ?_ _ | refine blk_drew ?_ | refine blk_alloc ?_ _)); exact BK382.out) hb); have n5_ := Aside0.mk (blk_below (g := gb395) (o := .cells #[.int .i64 t388, .int .i64 t389, .int .i64 t390, .slice Ao28 t391.length co28] 36 (0, 0)) (by (with_reducible repeat (first | refine blk_drewN ?_ _ | refine blk_drew ?_ | refine blk_alloc ?_ _)); exact BK395.out) hb); have n6_ := Aside0.mk (blk_below (g := gb418) (o := .cells #[.int .i64 t411, .int .i64 t412, .int .i64 t413, .slice Ao71 t414.length co71] 36 (0, 0)) (by (with_reducible repeat (first | refine blk_drewN ?_ _ | refine blk_drew ?_ | refine blk_alloc ?_ _)); exact BK418.out) hb); have n7_ := Aside0.mk (below_step (by repeat (first | (with_reducible first | exact HB.out | apply below_alloc | apply pw_below_drewN | apply below_drew1 | refine below_set ?_ GE382.out | refine below_set ?_ GE395.out | refine below_set ?_ GE418.out) | exact HB.out)) hb); clear HO_0; clear HO_383003; clear HO_396003; clear HO_419003; clear BK382; clear BK395; clear BK418; clear HB; have HO_0 := n0_; have HO_383003 := n1_; have HO_396003 := n2_; have HO_419003 := n3_; have BK382 := n4_; have BK395 := n5_; have BK418 := n6_; have HB := n7_; clear n0_ n1_ n2_ n3_ n4_ n5_ n6_ n7_; (try clear hb); (try clear hb2); (try clear hk); (try clear hi); have hnb108 := NB382_395.out; have hnc108 := NB395_382.out; have hnb109 := NB382_418.out; have hnc109 := NB418_382.out; have hcz110_0 : w107.cell? ⟨gb382, 0, none⟩ = some (.int .i64 a1_0) := (blk_cell BK382.out 0).trans rfl; have hcz110_1 : w107.cell? ⟨gb382, 1, none⟩ = some (.int .i64 a1_1) := (blk_cell BK382.out 1).trans rfl; have hcz110_2 : w107.cell? ⟨gb382, 2, none⟩ = some (.int .i64 a1_2) := (blk_cell BK382.out 2).trans rfl; have hcz110_3 : w107.cell? ⟨gb382, 3, none⟩ = some (.slice A1_3 l1_3.length c1_3) := (blk_cell BK382.out 3).trans rfl; have hfz110_0 := blk_frozen BK382.out 0; have hfz110_1 := blk_frozen BK382.out 1; have hfz110_2 := blk_frozen BK382.out 2; have hfz110_3 := blk_frozen BK382.out 3; have hnb111 := NB418_395.out; have hnc111 := NB395_418.out; have hcz112_0 : w107.cell? ⟨gb418, 0, none⟩ = some (.int .i64 t411) := (blk_cell BK418.out 0).trans rfl; have hcz112_1 : w107.cell? ⟨gb418, 1, none⟩ = some (.int .i64 t412) := (blk_cell BK418.out 1).trans rfl; have hcz112_2 : w107.cell? ⟨gb418, 2, none⟩ = some (.int .i64 t413) := (blk_cell BK418.out 2).trans rfl; have hcz112_3 : w107.cell? ⟨gb418, 3, none⟩ = some (.slice Ao71 t414.length co71) := (blk_cell BK418.out 3).trans rfl; have hfz112_0 := blk_frozen BK418.out 0; have hfz112_1 := blk_frozen BK418.out 1; have hfz112_2 := blk_frozen BK418.out 2; have hfz112_3 := blk_frozen BK418.out 3) | (go_at_call 25; (with_reducible refine (watchmanref23_SameVote.calls kj58 a1_0 a1_1 a1_2 _ _ l1_3 t411 t412 t413 _ _ t414 t421 _ ?side1 ?side2 ?side3 ?side4 A106.out).mono ?_); (case side1 => repeat (first | exact (Kd.V_reads' HO_383003.out).2.2 | (with_reducible refine Kd.C_alloc ?_ _) | (with_reducible refine Kd.C_drewN ?_ _) | (with_reducible refine Kd.C_drew ?_))); (case side2 => exact (Kd.V_reads' HO_383003.out).2.1); (case side3 => repeat (first | exact (Kd.R_reads' HO_419003.out).2.2 | (with_reducible refine Kd.C_alloc ?_ _) | (with_reducible refine Kd.C_drewN ?_ _) | (with_reducible refine Kd.C_drew ?_))); (case side4 => exact (Kd.R_reads' HO_419003.out).2.1); rintro e w113 ⟨rfl, hb⟩; have n0_ := Aside0.mk (Kd.V_below (by (with_reducible repeat (first | apply Kd.V_alloc | apply Kd.V_drewN | apply Kd.V_drew)); exact HO_0.out) hb); have n1_ := Aside0.mk (Kd.V_below (by (with_reducible repeat (first | apply Kd.V_alloc | apply Kd.V_drewN | apply Kd.V_drew)); exact HO_383003.out) hb); have n2_ := Aside0.mk (Kd.R_below (by (with_reducible repeat (first | apply Kd.R_alloc | apply Kd.R_drewN | apply Kd.R_drew)); exact HO_396003.out) hb); have n3_ := Aside0.mk (Kd.R_below (by (with_reducible repeat (first | apply Kd.R_alloc | apply Kd.R_drewN | apply Kd.R_drew)); exact HO_419003.out) hb); have n4_ := Aside0.mk (blk_below (g := gb382) (o := .cells #[.int .i64 a1_0, .int .i64 a1_1, .int .i64 a1_2, .slice A1_3 l1_3.length c1_3] 36 (0, 0)) (by (with_reducible repeat (first | refine blk_drewN ?_ _ | refine blk_drew ?_ | refine blk_alloc ?_ _)); exact BK382.out) hb); have n5_ := Aside0.mk (blk_below (g := gb395) (o := .cells #[.int .i64 t388, .int .i64 t389, .int .i64 t390, .slice Ao28 t391.length co28] 36 (0, 0)) (by (with_reducible repeat (first | refine blk_drewN ?_ _ | refine blk_drew ?_ | refine blk_alloc ?_ _)); exact BK395.out) hb); have n6_ := Aside0.mk (blk_below (g := gb418) (o := .cells #[.int .i64 t411, .int .i64 t412, .int .i64 t413, .slice Ao71 t414.length co71] 36 (0, 0)) (by (with_reducible repeat (first | refine blk_drewN ?_ _ | refine blk_drew ?_ | refine blk_alloc ?_ _)); exact BK418.out) hb); have n7_ := Aside0.mk (below_step (by repeat (first | (with_reducible first | exact HB.out | apply below_alloc | apply pw_below_drewN | apply below_drew1 | refine below_set ?_ GE382.out | refine below_set ?_ GE395.out | refine below_set ?_ GE418.out) | exact HB.out)) hb); clear HO_0; clear HO_383003; clear HO_396003; clear HO_419003; clear BK382; clear BK395; clear BK418; clear HB; have HO_0 := n0_; have HO_383003 := n1_; have HO_396003 := n2_; have HO_419003 := n3_; have BK382 := n4_; have BK395 := n5_; have BK418 := n6_; have HB := n7_; clear n0_ n1_ n2_ n3_ n4_ n5_ n6_ n7_; (try clear hb); (try clear hb2); (try clear hk); (try clear hi)))
                                        go_ret
                                        exact ⟨by first | rfl | (simp [errW_none, errW_some] <;> rfl) | (simp [*, errW_none, errW_some] <;> rfl), by repeat (first | (with_reducible first | exact HB.out | apply below_alloc | apply pw_below_drewN | apply below_drew1 | refine below_set ?_ GE382.out | refine below_set ?_ GE395.out | refine below_set ?_ GE418.out) | exact HB.out)⟩
                                    · replace c95 := Bool.eq_false_iff.mpr c95
                                      subst c95
                                      have H1 : (none) = some r := by rw [if_neg (show ¬ (false = true) by decide)] at H; exact H
                                      clear H
                                      have H := H1
                                      clear H1
                                      exact absurd H (by simp)
                                  · rw [if_neg c94] at H
                                    exact absurd H (by simp)
                                · rw [if_neg c93] at H
                                  exact absurd H (by simp)
                              · rw [if_neg c92] at H
                                exact absurd H (by simp)
                            · replace c91 := Bool.eq_false_iff.mpr c91
                              subst c91
                              have H1 : (none) = some r := by rw [if_neg (show ¬ (false = true) by decide)] at H; exact H
                              clear H
                              have H := H1
                              clear H1
                              exact absurd H (by simp)
                      · rw [if_neg c57] at H
                        exact absurd H (by simp)
                    · rw [if_neg c56] at H
                      exact absurd H (by simp)

end Go.Proofs.Ytncoccpgdgdknaa.F
