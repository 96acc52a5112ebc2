-- Written by a program of this session (xprint.py), out of the translation and of contracts proved by hand.
import Derived.Test.YtcfpbmdndapeaaaF0
import Derived.Test.YtcfpbmdndapeaaaF10
import Derived.Test.YtcfpbmdndapeaaaF12
namespace Go.Proofs.Ytcfpbmdndapeaaa.F
open Go.RowKit Go.Proofs.YtcfpbmdndapeaaaV.PrintWords Go.Proofs.YtcfpbmdndapeaaaV.PrintLast Go.Proofs.YtcfpbmdndapeaaaV.PrintMore
attribute [local go_sem] max2_int min2_int max_two min_two max_three min_three max_four min_four   -- for this text's walks alone
set_option linter.unusedVariables false
set_option linter.unusedSimpArgs false

/-! ### api_Turn_107: function 107 -/
mutual
def api_Turn_107.l0 : Nat → List (S65) → Int → Int → Int → Option ((List (S65)))
 | 0, _, _, _, _ => none
 | k + 1, x0, x1, x10, x11 => if x10 < x11 then (if 0 ≤ (wrap64 ((IntKind.u64.wrap (wrap64 (x10 + x11))) / 2)) then (if (wrap64 ((IntKind.u64.wrap (wrap64 (x10 + x11))) / 2)) < (x0.length : Int) then (if 0 ≤ x1 then (if x1 < (x0.length : Int) then ((due_Order_1.f k ((rd_T65 x0 (wrap64 ((IntKind.u64.wrap (wrap64 (x10 + x11))) / 2))).f0) ((rd_T65 x0 (wrap64 ((IntKind.u64.wrap (wrap64 (x10 + x11))) / 2))).f1.f0) ((rd_T65 x0 (wrap64 ((IntKind.u64.wrap (wrap64 (x10 + x11))) / 2))).f1.f1) ((rd_T65 x0 (wrap64 ((IntKind.u64.wrap (wrap64 (x10 + x11))) / 2))).f2) ((rd_T65 x0 x1).f0) ((rd_T65 x0 x1).f1.f0) ((rd_T65 x0 x1).f1.f1) ((rd_T65 x0 x1).f2)).bind fun t215 => (if t215 < 0 then (api_Turn_107.l0 k x0 x1 (wrap64 ((wrap64 ((IntKind.u64.wrap (wrap64 (x10 + x11))) / 2)) + 1)) x11) else (api_Turn_107.l0 k x0 x1 x10 (wrap64 ((IntKind.u64.wrap (wrap64 (x10 + x11))) / 2))))) else (none)) else (none)) else (none)) else (none)) else (api_Turn_107.l1 k x0 x10 x1)
def api_Turn_107.l1 : Nat → List (S65) → Int → Int → Option ((List (S65)))
 | 0, _, _, _ => none
 | k + 1, x0, x10, x13 => if x13 < (wrap64 (x10 - 1)) then (if 0 ≤ (wrap64 (x13 + 1)) then (if (wrap64 (x13 + 1)) < (x0.length : Int) then (if 0 ≤ x13 then (if x13 < (x0.length : Int) then (api_Turn_107.l1 k ((x0.set (x13 : Int).toNat (⟨(rd_T65 x0 (wrap64 (x13 + 1))).f0, (⟨(rd_T65 x0 (wrap64 (x13 + 1))).f1.f0, (rd_T65 x0 (wrap64 (x13 + 1))).f1.f1⟩ : S26), (rd_T65 x0 (wrap64 (x13 + 1))).f2⟩ : S65)).set ((wrap64 (x13 + 1)) : Int).toNat (⟨(rd_T65 x0 x13).f0, (⟨(rd_T65 x0 x13).f1.f0, (rd_T65 x0 x13).f1.f1⟩ : S26), (rd_T65 x0 x13).f2⟩ : S65)) x10 (wrap64 (x13 + 1))) else (none)) else (none)) else (none)) else (none)) else (some x0)
def api_Turn_107.l2 : Nat → List (S65) → Int → Int → Int → Option ((List (S65)))
 | 0, _, _, _, _ => none
 | k + 1, x0, x2, x14, x15 => if x14 < x15 then (if 0 ≤ x2 then (if x2 < (x0.length : Int) then (if 0 ≤ (wrap64 ((IntKind.u64.wrap (wrap64 (x14 + x15))) / 2)) then (if (wrap64 ((IntKind.u64.wrap (wrap64 (x14 + x15))) / 2)) < (x0.length : Int) then ((due_Order_1.f k ((rd_T65 x0 x2).f0) ((rd_T65 x0 x2).f1.f0) ((rd_T65 x0 x2).f1.f1) ((rd_T65 x0 x2).f2) ((rd_T65 x0 (wrap64 ((IntKind.u64.wrap (wrap64 (x14 + x15))) / 2))).f0) ((rd_T65 x0 (wrap64 ((IntKind.u64.wrap (wrap64 (x14 + x15))) / 2))).f1.f0) ((rd_T65 x0 (wrap64 ((IntKind.u64.wrap (wrap64 (x14 + x15))) / 2))).f1.f1) ((rd_T65 x0 (wrap64 ((IntKind.u64.wrap (wrap64 (x14 + x15))) / 2))).f2)).bind fun t222 => (if t222 < 0 then (api_Turn_107.l2 k x0 x2 x14 (wrap64 ((IntKind.u64.wrap (wrap64 (x14 + x15))) / 2))) else (api_Turn_107.l2 k x0 x2 (wrap64 ((wrap64 ((IntKind.u64.wrap (wrap64 (x14 + x15))) / 2)) + 1)) x15))) else (none)) else (none)) else (none)) else (none)) else (api_Turn_107.l3 k x0 x14 x2)
def api_Turn_107.l3 : Nat → List (S65) → Int → Int → Option ((List (S65)))
 | 0, _, _, _ => none
 | k + 1, x0, x14, x17 => if x17 > x14 then (if 0 ≤ (wrap64 (x17 - 1)) then (if (wrap64 (x17 - 1)) < (x0.length : Int) then (if 0 ≤ x17 then (if x17 < (x0.length : Int) then (api_Turn_107.l3 k ((x0.set (x17 : Int).toNat (⟨(rd_T65 x0 (wrap64 (x17 - 1))).f0, (⟨(rd_T65 x0 (wrap64 (x17 - 1))).f1.f0, (rd_T65 x0 (wrap64 (x17 - 1))).f1.f1⟩ : S26), (rd_T65 x0 (wrap64 (x17 - 1))).f2⟩ : S65)).set ((wrap64 (x17 - 1)) : Int).toNat (⟨(rd_T65 x0 x17).f0, (⟨(rd_T65 x0 x17).f1.f0, (rd_T65 x0 x17).f1.f1⟩ : S26), (rd_T65 x0 x17).f2⟩ : S65)) x14 (wrap64 (x17 - 1))) else (none)) else (none)) else (none)) else (none)) else (some x0)
def api_Turn_107.j4 : Nat → List (S65) → Int → Int → Int → Int → Int → Int → Int → Int → Option ((List (S65)))
 | 0, _, _, _, _, _, _, _, _, _ => none
 | k + 1, x0, x1, x2, x3, x4, x18, x19, x20, x21 => api_Turn_107.l4 k x0 x1 x2 x3 x4 x18 x19 x20 x21 (wrap64 (x19 - 1))
def api_Turn_107.l4 : Nat → List (S65) → Int → Int → Int → Int → Int → Int → Int → Int → Int → Option ((List (S65)))
 | 0, _, _, _, _, _, _, _, _, _, _ => none
 | k + 1, x0, x1, x2, x3, x4, x18, x19, x20, x21, x22 => if x20 < x21 then (if 0 ≤ (wrap64 (x22 - (wrap64 ((IntKind.u64.wrap (wrap64 (x20 + x21))) / 2)))) then (if (wrap64 (x22 - (wrap64 ((IntKind.u64.wrap (wrap64 (x20 + x21))) / 2)))) < (x0.length : Int) then (if 0 ≤ (wrap64 ((IntKind.u64.wrap (wrap64 (x20 + x21))) / 2)) then (if (wrap64 ((IntKind.u64.wrap (wrap64 (x20 + x21))) / 2)) < (x0.length : Int) then ((due_Order_1.f k ((rd_T65 x0 (wrap64 (x22 - (wrap64 ((IntKind.u64.wrap (wrap64 (x20 + x21))) / 2))))).f0) ((rd_T65 x0 (wrap64 (x22 - (wrap64 ((IntKind.u64.wrap (wrap64 (x20 + x21))) / 2))))).f1.f0) ((rd_T65 x0 (wrap64 (x22 - (wrap64 ((IntKind.u64.wrap (wrap64 (x20 + x21))) / 2))))).f1.f1) ((rd_T65 x0 (wrap64 (x22 - (wrap64 ((IntKind.u64.wrap (wrap64 (x20 + x21))) / 2))))).f2) ((rd_T65 x0 (wrap64 ((IntKind.u64.wrap (wrap64 (x20 + x21))) / 2))).f0) ((rd_T65 x0 (wrap64 ((IntKind.u64.wrap (wrap64 (x20 + x21))) / 2))).f1.f0) ((rd_T65 x0 (wrap64 ((IntKind.u64.wrap (wrap64 (x20 + x21))) / 2))).f1.f1) ((rd_T65 x0 (wrap64 ((IntKind.u64.wrap (wrap64 (x20 + x21))) / 2))).f2)).bind fun t229 => (if t229 < 0 then (api_Turn_107.l4 k x0 x1 x2 x3 x4 x18 x19 x20 (wrap64 ((IntKind.u64.wrap (wrap64 (x20 + x21))) / 2)) x22) else (api_Turn_107.l4 k x0 x1 x2 x3 x4 x18 x19 (wrap64 ((wrap64 ((IntKind.u64.wrap (wrap64 (x20 + x21))) / 2)) + 1)) x21 x22))) else (none)) else (none)) else (none)) else (none)) else (if x20 < x2 then (api_Turn_107.j6 k x0 x1 x2 x3 x4 x18 x20 (wrap64 (x19 - x20)) (decide (x2 < (wrap64 (x19 - x20))))) else (api_Turn_107.j6 k x0 x1 x2 x3 x4 x18 x20 (wrap64 (x19 - x20)) false))
def api_Turn_107.j6 : Nat → List (S65) → Int → Int → Int → Int → Int → Int → Int → Bool → Option ((List (S65)))
 | 0, _, _, _, _, _, _, _, _, _ => none
 | k + 1, x0, x1, x2, x3, x4, x18, x20, x24, x185 => if x185 = true then ((api_Turn_108.f k x0 x20 x2 x24 x4).bind fun t230 => (api_Turn_107.j7 k t230 x1 x3 x4 x18 x20 x24)) else (api_Turn_107.j7 k x0 x1 x3 x4 x18 x20 x24)
def api_Turn_107.j7 : Nat → List (S65) → Int → Int → Int → Int → Int → Int → Option ((List (S65)))
 | 0, _, _, _, _, _, _, _ => none
 | k + 1, x0, x1, x3, x4, x18, x20, x24 => if x1 < x20 then (api_Turn_107.j8 k x0 x1 x3 x4 x18 x20 x24 (decide (x20 < x18))) else (api_Turn_107.j8 k x0 x1 x3 x4 x18 x20 x24 false)
def api_Turn_107.j8 : Nat → List (S65) → Int → Int → Int → Int → Int → Int → Bool → Option ((List (S65)))
 | 0, _, _, _, _, _, _, _, _ => none
 | k + 1, x0, x1, x3, x4, x18, x20, x24, x199 => if x199 = true then ((api_Turn_107.f k x0 x1 x20 x18 x4).bind fun t231 => (api_Turn_107.j9 k t231 x3 x4 x18 x24)) else (api_Turn_107.j9 k x0 x3 x4 x18 x24)
def api_Turn_107.j9 : Nat → List (S65) → Int → Int → Int → Int → Option ((List (S65)))
 | 0, _, _, _, _, _ => none
 | k + 1, x0, x3, x4, x18, x24 => if x18 < x24 then (if x24 < x3 then ((api_Turn_107.f k x0 x18 x24 x3 x4).bind fun t232 => (some t232)) else (some x0)) else (some x0)
def api_Turn_107.f : Nat → List (S65) → Int → Int → Int → Int → Option ((List (S65)))
 | 0, _, _, _, _, _ => none
 | k + 1, l0, a1, a2, a3, a4 => if (wrap64 (a2 - a1)) = 1 then (api_Turn_107.l0 k l0 a1 a2 a3) else (if (wrap64 (a3 - a2)) = 1 then (api_Turn_107.l2 k l0 a2 a1 a2) else (if a2 > (wrap64 ((IntKind.u64.wrap (wrap64 (a1 + a3))) / 2)) then (api_Turn_107.j4 k l0 a1 a2 a3 a4 (wrap64 ((IntKind.u64.wrap (wrap64 (a1 + a3))) / 2)) (wrap64 ((wrap64 ((IntKind.u64.wrap (wrap64 (a1 + a3))) / 2)) + a2)) (wrap64 ((wrap64 ((wrap64 ((IntKind.u64.wrap (wrap64 (a1 + a3))) / 2)) + a2)) - a3)) (wrap64 ((IntKind.u64.wrap (wrap64 (a1 + a3))) / 2))) else (api_Turn_107.j4 k l0 a1 a2 a3 a4 (wrap64 ((IntKind.u64.wrap (wrap64 (a1 + a3))) / 2)) (wrap64 ((wrap64 ((IntKind.u64.wrap (wrap64 (a1 + a3))) / 2)) + a2)) a1 a2)))
end
theorem api_Turn_107.mono_l : ∀ k, (∀ y0 y1 y2 y3 y4, LeO (api_Turn_107.f k y0 y1 y2 y3 y4) (api_Turn_107.f (k + 1) y0 y1 y2 y3 y4)) ∧ (∀ y0 y1 y2 y3, LeO (api_Turn_107.l0 k y0 y1 y2 y3) (api_Turn_107.l0 (k + 1) y0 y1 y2 y3)) ∧ (∀ y0 y1 y2, LeO (api_Turn_107.l1 k y0 y1 y2) (api_Turn_107.l1 (k + 1) y0 y1 y2)) ∧ (∀ y0 y1 y2 y3, LeO (api_Turn_107.l2 k y0 y1 y2 y3) (api_Turn_107.l2 (k + 1) y0 y1 y2 y3)) ∧ (∀ y0 y1 y2, LeO (api_Turn_107.l3 k y0 y1 y2) (api_Turn_107.l3 (k + 1) y0 y1 y2)) ∧ (∀ y0 y1 y2 y3 y4 y5 y6 y7 y8, LeO (api_Turn_107.j4 k y0 y1 y2 y3 y4 y5 y6 y7 y8) (api_Turn_107.j4 (k + 1) y0 y1 y2 y3 y4 y5 y6 y7 y8)) ∧ (∀ y0 y1 y2 y3 y4 y5 y6 y7 y8 y9, LeO (api_Turn_107.l4 k y0 y1 y2 y3 y4 y5 y6 y7 y8 y9) (api_Turn_107.l4 (k + 1) y0 y1 y2 y3 y4 y5 y6 y7 y8 y9)) ∧ (∀ y0 y1 y2 y3 y4 y5 y6 y7 y8, LeO (api_Turn_107.j6 k y0 y1 y2 y3 y4 y5 y6 y7 y8) (api_Turn_107.j6 (k + 1) y0 y1 y2 y3 y4 y5 y6 y7 y8)) ∧ (∀ y0 y1 y2 y3 y4 y5 y6, LeO (api_Turn_107.j7 k y0 y1 y2 y3 y4 y5 y6) (api_Turn_107.j7 (k + 1) y0 y1 y2 y3 y4 y5 y6)) ∧ (∀ y0 y1 y2 y3 y4 y5 y6 y7, LeO (api_Turn_107.j8 k y0 y1 y2 y3 y4 y5 y6 y7) (api_Turn_107.j8 (k + 1) y0 y1 y2 y3 y4 y5 y6 y7)) ∧ (∀ y0 y1 y2 y3 y4, LeO (api_Turn_107.j9 k y0 y1 y2 y3 y4) (api_Turn_107.j9 (k + 1) y0 y1 y2 y3 y4))
 | 0 => ⟨fun _ _ _ _ _ r h => by simp [api_Turn_107.f] at h, fun _ _ _ _ r h => by simp [api_Turn_107.l0] at h, fun _ _ _ r h => by simp [api_Turn_107.l1] at h, fun _ _ _ _ r h => by simp [api_Turn_107.l2] at h, fun _ _ _ r h => by simp [api_Turn_107.l3] at h, fun _ _ _ _ _ _ _ _ _ r h => by simp [api_Turn_107.j4] at h, fun _ _ _ _ _ _ _ _ _ _ r h => by simp [api_Turn_107.l4] at h, fun _ _ _ _ _ _ _ _ _ r h => by simp [api_Turn_107.j6] at h, fun _ _ _ _ _ _ _ r h => by simp [api_Turn_107.j7] at h, fun _ _ _ _ _ _ _ _ r h => by simp [api_Turn_107.j8] at h, fun _ _ _ _ _ r h => by simp [api_Turn_107.j9] at h⟩
 | k + 1 => by
  obtain ⟨ih0, ih1, ih2, ih3, ih4, ih5, ih6, ih7, ih8, ih9, ih10⟩ := api_Turn_107.mono_l k
  refine ⟨?_, ?_, ?_, ?_, ?_, ?_, ?_, ?_, ?_, ?_, ?_⟩
  ·intro y0 y1 y2 y3 y4
   unfold api_Turn_107.f
   repeat' first
   | (with_reducible exact ih0 _ _ _ _ _)
   | (with_reducible exact ih1 _ _ _ _)
   | (with_reducible exact ih2 _ _ _)
   | (with_reducible exact ih3 _ _ _ _)
   | (with_reducible exact ih4 _ _ _)
   | (with_reducible exact ih5 _ _ _ _ _ _ _ _ _)
   | (with_reducible exact ih6 _ _ _ _ _ _ _ _ _ _)
   | (with_reducible exact ih7 _ _ _ _ _ _ _ _ _)
   | (with_reducible exact ih8 _ _ _ _ _ _ _)
   | (with_reducible exact ih9 _ _ _ _ _ _ _ _)
   | (with_reducible exact ih10 _ _ _ _ _)
   | (with_reducible exact api_Turn_108.mono _ _ _ _ _ _)
   | (with_reducible exact due_Order_1.mono _ _ _ _ _ _ _ _ _)
   | (with_reducible exact LeO.refl _)
   | (with_reducible exact LeO.none _)
   | (with_reducible refine LeO.ite ?_ ?_)
   | (with_reducible refine LeO.bind ?_ (fun _ => ?_))
   | exact ih0 _ _ _ _ _
   | exact ih1 _ _ _ _
   | exact ih2 _ _ _
   | exact ih3 _ _ _ _
   | exact ih4 _ _ _
   | exact ih5 _ _ _ _ _ _ _ _ _
   | exact ih6 _ _ _ _ _ _ _ _ _ _
   | exact ih7 _ _ _ _ _ _ _ _ _
   | exact ih8 _ _ _ _ _ _ _
   | exact ih9 _ _ _ _ _ _ _ _
   | exact ih10 _ _ _ _ _
   | exact api_Turn_108.mono _ _ _ _ _ _
   | exact due_Order_1.mono _ _ _ _ _ _ _ _ _
   | exact LeO.none _
   | refine LeO.ite ?_ ?_
   | refine LeO.bind ?_ (fun _ => ?_)
  ·intro y0 y1 y2 y3
   unfold api_Turn_107.l0
   repeat' first
   | (with_reducible exact ih0 _ _ _ _ _)
   | (with_reducible exact ih1 _ _ _ _)
   | (with_reducible exact ih2 _ _ _)
   | (with_reducible exact ih3 _ _ _ _)
   | (with_reducible exact ih4 _ _ _)
   | (with_reducible exact ih5 _ _ _ _ _ _ _ _ _)
   | (with_reducible exact ih6 _ _ _ _ _ _ _ _ _ _)
   | (with_reducible exact ih7 _ _ _ _ _ _ _ _ _)
   | (with_reducible exact ih8 _ _ _ _ _ _ _)
   | (with_reducible exact ih9 _ _ _ _ _ _ _ _)
   | (with_reducible exact ih10 _ _ _ _ _)
   | (with_reducible exact api_Turn_108.mono _ _ _ _ _ _)
   | (with_reducible exact due_Order_1.mono _ _ _ _ _ _ _ _ _)
   | (with_reducible exact LeO.refl _)
   | (with_reducible exact LeO.none _)
   | (with_reducible refine LeO.ite ?_ ?_)
   | (with_reducible refine LeO.bind ?_ (fun _ => ?_))
   | exact ih0 _ _ _ _ _
   | exact ih1 _ _ _ _
   | exact ih2 _ _ _
   | exact ih3 _ _ _ _
   | exact ih4 _ _ _
   | exact ih5 _ _ _ _ _ _ _ _ _
   | exact ih6 _ _ _ _ _ _ _ _ _ _
   | exact ih7 _ _ _ _ _ _ _ _ _
   | exact ih8 _ _ _ _ _ _ _
   | exact ih9 _ _ _ _ _ _ _ _
   | exact ih10 _ _ _ _ _
   | exact api_Turn_108.mono _ _ _ _ _ _
   | exact due_Order_1.mono _ _ _ _ _ _ _ _ _
   | exact LeO.none _
   | refine LeO.ite ?_ ?_
   | refine LeO.bind ?_ (fun _ => ?_)
  ·intro y0 y1 y2
   unfold api_Turn_107.l1
   repeat' first
   | (with_reducible exact ih0 _ _ _ _ _)
   | (with_reducible exact ih1 _ _ _ _)
   | (with_reducible exact ih2 _ _ _)
   | (with_reducible exact ih3 _ _ _ _)
   | (with_reducible exact ih4 _ _ _)
   | (with_reducible exact ih5 _ _ _ _ _ _ _ _ _)
   | (with_reducible exact ih6 _ _ _ _ _ _ _ _ _ _)
   | (with_reducible exact ih7 _ _ _ _ _ _ _ _ _)
   | (with_reducible exact ih8 _ _ _ _ _ _ _)
   | (with_reducible exact ih9 _ _ _ _ _ _ _ _)
   | (with_reducible exact ih10 _ _ _ _ _)
   | (with_reducible exact api_Turn_108.mono _ _ _ _ _ _)
   | (with_reducible exact due_Order_1.mono _ _ _ _ _ _ _ _ _)
   | (with_reducible exact LeO.refl _)
   | (with_reducible exact LeO.none _)
   | (with_reducible refine LeO.ite ?_ ?_)
   | (with_reducible refine LeO.bind ?_ (fun _ => ?_))
   | exact ih0 _ _ _ _ _
   | exact ih1 _ _ _ _
   | exact ih2 _ _ _
   | exact ih3 _ _ _ _
   | exact ih4 _ _ _
   | exact ih5 _ _ _ _ _ _ _ _ _
   | exact ih6 _ _ _ _ _ _ _ _ _ _
   | exact ih7 _ _ _ _ _ _ _ _ _
   | exact ih8 _ _ _ _ _ _ _
   | exact ih9 _ _ _ _ _ _ _ _
   | exact ih10 _ _ _ _ _
   | exact api_Turn_108.mono _ _ _ _ _ _
   | exact due_Order_1.mono _ _ _ _ _ _ _ _ _
   | exact LeO.none _
   | refine LeO.ite ?_ ?_
   | refine LeO.bind ?_ (fun _ => ?_)
  ·intro y0 y1 y2 y3
   unfold api_Turn_107.l2
   repeat' first
   | (with_reducible exact ih0 _ _ _ _ _)
   | (with_reducible exact ih1 _ _ _ _)
   | (with_reducible exact ih2 _ _ _)
   | (with_reducible exact ih3 _ _ _ _)
   | (with_reducible exact ih4 _ _ _)
   | (with_reducible exact ih5 _ _ _ _ _ _ _ _ _)
   | (with_reducible exact ih6 _ _ _ _ _ _ _ _ _ _)
   | (with_reducible exact ih7 _ _ _ _ _ _ _ _ _)
   | (with_reducible exact ih8 _ _ _ _ _ _ _)
   | (with_reducible exact ih9 _ _ _ _ _ _ _ _)
   | (with_reducible exact ih10 _ _ _ _ _)
   | (with_reducible exact api_Turn_108.mono _ _ _ _ _ _)
   | (with_reducible exact due_Order_1.mono _ _ _ _ _ _ _ _ _)
   | (with_reducible exact LeO.refl _)
   | (with_reducible exact LeO.none _)
   | (with_reducible refine LeO.ite ?_ ?_)
   | (with_reducible refine LeO.bind ?_ (fun _ => ?_))
   | exact ih0 _ _ _ _ _
   | exact ih1 _ _ _ _
   | exact ih2 _ _ _
   | exact ih3 _ _ _ _
   | exact ih4 _ _ _
   | exact ih5 _ _ _ _ _ _ _ _ _
   | exact ih6 _ _ _ _ _ _ _ _ _ _
   | exact ih7 _ _ _ _ _ _ _ _ _
   | exact ih8 _ _ _ _ _ _ _
   | exact ih9 _ _ _ _ _ _ _ _
   | exact ih10 _ _ _ _ _
   | exact api_Turn_108.mono _ _ _ _ _ _
   | exact due_Order_1.mono _ _ _ _ _ _ _ _ _
   | exact LeO.none _
   | refine LeO.ite ?_ ?_
   | refine LeO.bind ?_ (fun _ => ?_)
  ·intro y0 y1 y2
   unfold api_Turn_107.l3
   repeat' first
   | (with_reducible exact ih0 _ _ _ _ _)
   | (with_reducible exact ih1 _ _ _ _)
   | (with_reducible exact ih2 _ _ _)
   | (with_reducible exact ih3 _ _ _ _)
   | (with_reducible exact ih4 _ _ _)
   | (with_reducible exact ih5 _ _ _ _ _ _ _ _ _)
   | (with_reducible exact ih6 _ _ _ _ _ _ _ _ _ _)
   | (with_reducible exact ih7 _ _ _ _ _ _ _ _ _)
   | (with_reducible exact ih8 _ _ _ _ _ _ _)
   | (with_reducible exact ih9 _ _ _ _ _ _ _ _)
   | (with_reducible exact ih10 _ _ _ _ _)
   | (with_reducible exact api_Turn_108.mono _ _ _ _ _ _)
   | (with_reducible exact due_Order_1.mono _ _ _ _ _ _ _ _ _)
   | (with_reducible exact LeO.refl _)
   | (with_reducible exact LeO.none _)
   | (with_reducible refine LeO.ite ?_ ?_)
   | (with_reducible refine LeO.bind ?_ (fun _ => ?_))
   | exact ih0 _ _ _ _ _
   | exact ih1 _ _ _ _
   | exact ih2 _ _ _
   | exact ih3 _ _ _ _
   | exact ih4 _ _ _
   | exact ih5 _ _ _ _ _ _ _ _ _
   | exact ih6 _ _ _ _ _ _ _ _ _ _
   | exact ih7 _ _ _ _ _ _ _ _ _
   | exact ih8 _ _ _ _ _ _ _
   | exact ih9 _ _ _ _ _ _ _ _
   | exact ih10 _ _ _ _ _
   | exact api_Turn_108.mono _ _ _ _ _ _
   | exact due_Order_1.mono _ _ _ _ _ _ _ _ _
   | exact LeO.none _
   | refine LeO.ite ?_ ?_
   | refine LeO.bind ?_ (fun _ => ?_)
  ·intro y0 y1 y2 y3 y4 y5 y6 y7 y8
   unfold api_Turn_107.j4
   repeat' first
   | (with_reducible exact ih0 _ _ _ _ _)
   | (with_reducible exact ih1 _ _ _ _)
   | (with_reducible exact ih2 _ _ _)
   | (with_reducible exact ih3 _ _ _ _)
   | (with_reducible exact ih4 _ _ _)
   | (with_reducible exact ih5 _ _ _ _ _ _ _ _ _)
   | (with_reducible exact ih6 _ _ _ _ _ _ _ _ _ _)
   | (with_reducible exact ih7 _ _ _ _ _ _ _ _ _)
   | (with_reducible exact ih8 _ _ _ _ _ _ _)
   | (with_reducible exact ih9 _ _ _ _ _ _ _ _)
   | (with_reducible exact ih10 _ _ _ _ _)
   | (with_reducible exact api_Turn_108.mono _ _ _ _ _ _)
   | (with_reducible exact due_Order_1.mono _ _ _ _ _ _ _ _ _)
   | (with_reducible exact LeO.refl _)
   | (with_reducible exact LeO.none _)
   | (with_reducible refine LeO.ite ?_ ?_)
   | (with_reducible refine LeO.bind ?_ (fun _ => ?_))
   | exact ih0 _ _ _ _ _
   | exact ih1 _ _ _ _
   | exact ih2 _ _ _
   | exact ih3 _ _ _ _
   | exact ih4 _ _ _
   | exact ih5 _ _ _ _ _ _ _ _ _
   | exact ih6 _ _ _ _ _ _ _ _ _ _
   | exact ih7 _ _ _ _ _ _ _ _ _
   | exact ih8 _ _ _ _ _ _ _
   | exact ih9 _ _ _ _ _ _ _ _
   | exact ih10 _ _ _ _ _
   | exact api_Turn_108.mono _ _ _ _ _ _
   | exact due_Order_1.mono _ _ _ _ _ _ _ _ _
   | exact LeO.none _
   | refine LeO.ite ?_ ?_
   | refine LeO.bind ?_ (fun _ => ?_)
  ·intro y0 y1 y2 y3 y4 y5 y6 y7 y8 y9
   unfold api_Turn_107.l4
   repeat' first
   | (with_reducible exact ih0 _ _ _ _ _)
   | (with_reducible exact ih1 _ _ _ _)
   | (with_reducible exact ih2 _ _ _)
   | (with_reducible exact ih3 _ _ _ _)
   | (with_reducible exact ih4 _ _ _)
   | (with_reducible exact ih5 _ _ _ _ _ _ _ _ _)
   | (with_reducible exact ih6 _ _ _ _ _ _ _ _ _ _)
   | (with_reducible exact ih7 _ _ _ _ _ _ _ _ _)
   | (with_reducible exact ih8 _ _ _ _ _ _ _)
   | (with_reducible exact ih9 _ _ _ _ _ _ _ _)
   | (with_reducible exact ih10 _ _ _ _ _)
   | (with_reducible exact api_Turn_108.mono _ _ _ _ _ _)
   | (with_reducible exact due_Order_1.mono _ _ _ _ _ _ _ _ _)
   | (with_reducible exact LeO.refl _)
   | (with_reducible exact LeO.none _)
   | (with_reducible refine LeO.ite ?_ ?_)
   | (with_reducible refine LeO.bind ?_ (fun _ => ?_))
   | exact ih0 _ _ _ _ _
   | exact ih1 _ _ _ _
   | exact ih2 _ _ _
   | exact ih3 _ _ _ _
   | exact ih4 _ _ _
   | exact ih5 _ _ _ _ _ _ _ _ _
   | exact ih6 _ _ _ _ _ _ _ _ _ _
   | exact ih7 _ _ _ _ _ _ _ _ _
   | exact ih8 _ _ _ _ _ _ _
   | exact ih9 _ _ _ _ _ _ _ _
   | exact ih10 _ _ _ _ _
   | exact api_Turn_108.mono _ _ _ _ _ _
   | exact due_Order_1.mono _ _ _ _ _ _ _ _ _
   | exact LeO.none _
   | refine LeO.ite ?_ ?_
   | refine LeO.bind ?_ (fun _ => ?_)
  ·intro y0 y1 y2 y3 y4 y5 y6 y7 y8
   unfold api_Turn_107.j6
   repeat' first
   | (with_reducible exact ih0 _ _ _ _ _)
   | (with_reducible exact ih1 _ _ _ _)
   | (with_reducible exact ih2 _ _ _)
   | (with_reducible exact ih3 _ _ _ _)
   | (with_reducible exact ih4 _ _ _)
   | (with_reducible exact ih5 _ _ _ _ _ _ _ _ _)
   | (with_reducible exact ih6 _ _ _ _ _ _ _ _ _ _)
   | (with_reducible exact ih7 _ _ _ _ _ _ _ _ _)
   | (with_reducible exact ih8 _ _ _ _ _ _ _)
   | (with_reducible exact ih9 _ _ _ _ _ _ _ _)
   | (with_reducible exact ih10 _ _ _ _ _)
   | (with_reducible exact api_Turn_108.mono _ _ _ _ _ _)
   | (with_reducible exact due_Order_1.mono _ _ _ _ _ _ _ _ _)
   | (with_reducible exact LeO.refl _)
   | (with_reducible exact LeO.none _)
   | (with_reducible refine LeO.ite ?_ ?_)
   | (with_reducible refine LeO.bind ?_ (fun _ => ?_))
   | exact ih0 _ _ _ _ _
   | exact ih1 _ _ _ _
   | exact ih2 _ _ _
   | exact ih3 _ _ _ _
   | exact ih4 _ _ _
   | exact ih5 _ _ _ _ _ _ _ _ _
   | exact ih6 _ _ _ _ _ _ _ _ _ _
   | exact ih7 _ _ _ _ _ _ _ _ _
   | exact ih8 _ _ _ _ _ _ _
   | exact ih9 _ _ _ _ _ _ _ _
   | exact ih10 _ _ _ _ _
   | exact api_Turn_108.mono _ _ _ _ _ _
   | exact due_Order_1.mono _ _ _ _ _ _ _ _ _
   | exact LeO.none _
   | refine LeO.ite ?_ ?_
   | refine LeO.bind ?_ (fun _ => ?_)
  ·intro y0 y1 y2 y3 y4 y5 y6
   unfold api_Turn_107.j7
   repeat' first
   | (with_reducible exact ih0 _ _ _ _ _)
   | (with_reducible exact ih1 _ _ _ _)
   | (with_reducible exact ih2 _ _ _)
   | (with_reducible exact ih3 _ _ _ _)
   | (with_reducible exact ih4 _ _ _)
   | (with_reducible exact ih5 _ _ _ _ _ _ _ _ _)
   | (with_reducible exact ih6 _ _ _ _ _ _ _ _ _ _)
   | (with_reducible exact ih7 _ _ _ _ _ _ _ _ _)
   | (with_reducible exact ih8 _ _ _ _ _ _ _)
   | (with_reducible exact ih9 _ _ _ _ _ _ _ _)
   | (with_reducible exact ih10 _ _ _ _ _)
   | (with_reducible exact api_Turn_108.mono _ _ _ _ _ _)
   | (with_reducible exact due_Order_1.mono _ _ _ _ _ _ _ _ _)
   | (with_reducible exact LeO.refl _)
   | (with_reducible exact LeO.none _)
   | (with_reducible refine LeO.ite ?_ ?_)
   | (with_reducible refine LeO.bind ?_ (fun _ => ?_))
   | exact ih0 _ _ _ _ _
   | exact ih1 _ _ _ _
   | exact ih2 _ _ _
   | exact ih3 _ _ _ _
   | exact ih4 _ _ _
   | exact ih5 _ _ _ _ _ _ _ _ _
   | exact ih6 _ _ _ _ _ _ _ _ _ _
   | exact ih7 _ _ _ _ _ _ _ _ _
   | exact ih8 _ _ _ _ _ _ _
   | exact ih9 _ _ _ _ _ _ _ _
   | exact ih10 _ _ _ _ _
   | exact api_Turn_108.mono _ _ _ _ _ _
   | exact due_Order_1.mono _ _ _ _ _ _ _ _ _
   | exact LeO.none _
   | refine LeO.ite ?_ ?_
   | refine LeO.bind ?_ (fun _ => ?_)
  ·intro y0 y1 y2 y3 y4 y5 y6 y7
   unfold api_Turn_107.j8
   repeat' first
   | (with_reducible exact ih0 _ _ _ _ _)
   | (with_reducible exact ih1 _ _ _ _)
   | (with_reducible exact ih2 _ _ _)
   | (with_reducible exact ih3 _ _ _ _)
   | (with_reducible exact ih4 _ _ _)
   | (with_reducible exact ih5 _ _ _ _ _ _ _ _ _)
   | (with_reducible exact ih6 _ _ _ _ _ _ _ _ _ _)
   | (with_reducible exact ih7 _ _ _ _ _ _ _ _ _)
   | (with_reducible exact ih8 _ _ _ _ _ _ _)
   | (with_reducible exact ih9 _ _ _ _ _ _ _ _)
   | (with_reducible exact ih10 _ _ _ _ _)
   | (with_reducible exact api_Turn_108.mono _ _ _ _ _ _)
   | (with_reducible exact due_Order_1.mono _ _ _ _ _ _ _ _ _)
   | (with_reducible exact LeO.refl _)
   | (with_reducible exact LeO.none _)
   | (with_reducible refine LeO.ite ?_ ?_)
   | (with_reducible refine LeO.bind ?_ (fun _ => ?_))
   | exact ih0 _ _ _ _ _
   | exact ih1 _ _ _ _
   | exact ih2 _ _ _
   | exact ih3 _ _ _ _
   | exact ih4 _ _ _
   | exact ih5 _ _ _ _ _ _ _ _ _
   | exact ih6 _ _ _ _ _ _ _ _ _ _
   | exact ih7 _ _ _ _ _ _ _ _ _
   | exact ih8 _ _ _ _ _ _ _
   | exact ih9 _ _ _ _ _ _ _ _
   | exact ih10 _ _ _ _ _
   | exact api_Turn_108.mono _ _ _ _ _ _
   | exact due_Order_1.mono _ _ _ _ _ _ _ _ _
   | exact LeO.none _
   | refine LeO.ite ?_ ?_
   | refine LeO.bind ?_ (fun _ => ?_)
  ·intro y0 y1 y2 y3 y4
   unfold api_Turn_107.j9
   repeat' first
   | (with_reducible exact ih0 _ _ _ _ _)
   | (with_reducible exact ih1 _ _ _ _)
   | (with_reducible exact ih2 _ _ _)
   | (with_reducible exact ih3 _ _ _ _)
   | (with_reducible exact ih4 _ _ _)
   | (with_reducible exact ih5 _ _ _ _ _ _ _ _ _)
   | (with_reducible exact ih6 _ _ _ _ _ _ _ _ _ _)
   | (with_reducible exact ih7 _ _ _ _ _ _ _ _ _)
   | (with_reducible exact ih8 _ _ _ _ _ _ _)
   | (with_reducible exact ih9 _ _ _ _ _ _ _ _)
   | (with_reducible exact ih10 _ _ _ _ _)
   | (with_reducible exact api_Turn_108.mono _ _ _ _ _ _)
   | (with_reducible exact due_Order_1.mono _ _ _ _ _ _ _ _ _)
   | (with_reducible exact LeO.refl _)
   | (with_reducible exact LeO.none _)
   | (with_reducible refine LeO.ite ?_ ?_)
   | (with_reducible refine LeO.bind ?_ (fun _ => ?_))
   | exact ih0 _ _ _ _ _
   | exact ih1 _ _ _ _
   | exact ih2 _ _ _
   | exact ih3 _ _ _ _
   | exact ih4 _ _ _
   | exact ih5 _ _ _ _ _ _ _ _ _
   | exact ih6 _ _ _ _ _ _ _ _ _ _
   | exact ih7 _ _ _ _ _ _ _ _ _
   | exact ih8 _ _ _ _ _ _ _
   | exact ih9 _ _ _ _ _ _ _ _
   | exact ih10 _ _ _ _ _
   | exact api_Turn_108.mono _ _ _ _ _ _
   | exact due_Order_1.mono _ _ _ _ _ _ _ _ _
   | exact LeO.none _
   | refine LeO.ite ?_ ?_
   | refine LeO.bind ?_ (fun _ => ?_)
theorem api_Turn_107.mono : ∀ a0 a1 a2 a3 a4 k, LeO (api_Turn_107.f k a0 a1 a2 a3 a4) (api_Turn_107.f (k + 1) a0 a1 a2 a3 a4) := by
 intro a0 a1 a2 a3 a4 k
 obtain ⟨ih0, ih1, ih2, ih3, ih4, ih5, ih6, ih7, ih8, ih9, ih10⟩ := api_Turn_107.mono_l k
 exact ih0 a0 a1 a2 a3 a4
def api_Turn_107.T5 : Bool × List (List Nat × List Nat) := (true, [([], []), ([], []), ([], []), ([1, 2], [1, 2]), ([3], [3]), ([], []), ([], []), ([5, 6], [5, 6]), ([7], [7]), ([0, 4, 8], [0, 4, 8]), ([9], [9])])
def api_Turn_107.B5 : List Nat := [0, 0, 0, 6, 14, 0, 0, 96, 224, 511, 1023]
theorem api_Turn_107.tab5 : rtab .any (opsOf Try.f107 5) = api_Turn_107.T5 := by kernel_rfl
theorem api_Turn_107.bits5 : waitsOk api_Turn_107.T5.2 api_Turn_107.B5 = true := by kernel_rfl
def api_Turn_107.T11 : Bool × List (List Nat × List Nat) := (true, [([], []), ([], []), ([], []), ([], []), ([3], [3]), ([], []), ([], []), ([6], [6]), ([5, 7], [5, 7]), ([8], [8]), ([], []), ([], []), ([10, 11], [10, 11]), ([12], [12]), ([0, 1, 0, 1, 5, 6, 7, 8, 9, 13], [0, 1]), ([14, 9, 0, 1, 5, 6, 7, 8, 9, 13], [9, 14]), ([2, 4, 0, 1, 2, 3, 4, 5, 6, 7, 8, 9, 10, 11, 12, 13, 14, 15], [2, 4]), ([16, 13, 15, 0, 1, 2, 3, 4, 5, 6, 7, 8, 9, 10, 11, 12, 13, 14, 15], [13, 16])])
def api_Turn_107.B11 : List Nat := [0, 0, 0, 0, 8, 0, 0, 64, 224, 480, 0, 0, 3072, 7168, 16355, 32739, 65535, 131071]
theorem api_Turn_107.tab11 : rtab .any (opsOf Try.f107 11) = api_Turn_107.T11 := by kernel_rfl
theorem api_Turn_107.bits11 : waitsOk api_Turn_107.T11.2 api_Turn_107.B11 = true := by kernel_rfl
def api_Turn_107.T17 : Bool × List (List Nat × List Nat) := (true, [([], []), ([], []), ([], []), ([1, 2], [1, 2]), ([3], [3]), ([], []), ([], []), ([5, 6], [5, 6]), ([7], [7]), ([0, 4, 8], [0, 4, 8]), ([9], [9]), ([10], [10])])
def api_Turn_107.B17 : List Nat := [0, 0, 0, 6, 14, 0, 0, 96, 224, 511, 1023, 2047]
theorem api_Turn_107.tab17 : rtab .any (opsOf Try.f107 17) = api_Turn_107.T17 := by kernel_rfl
theorem api_Turn_107.bits17 : waitsOk api_Turn_107.T17.2 api_Turn_107.B17 = true := by kernel_rfl
def api_Turn_107.T23 : Bool × List (List Nat × List Nat) := (true, [([], []), ([], []), ([], []), ([], []), ([3], [3]), ([], []), ([], []), ([6], [6]), ([5, 7], [5, 7]), ([8], [8]), ([], []), ([], []), ([10, 11], [10, 11]), ([12], [12]), ([0, 1, 0, 1, 5, 6, 7, 8, 9, 13], [0, 1]), ([14, 9, 0, 1, 5, 6, 7, 8, 9, 13], [9, 14]), ([2, 4, 0, 1, 2, 3, 4, 5, 6, 7, 8, 9, 10, 11, 12, 13, 14, 15], [2, 4]), ([16, 13, 15, 0, 1, 2, 3, 4, 5, 6, 7, 8, 9, 10, 11, 12, 13, 14, 15], [13, 16])])
def api_Turn_107.B23 : List Nat := [0, 0, 0, 0, 8, 0, 0, 64, 224, 480, 0, 0, 3072, 7168, 16355, 32739, 65535, 131071]
theorem api_Turn_107.tab23 : rtab .any (opsOf Try.f107 23) = api_Turn_107.T23 := by kernel_rfl
theorem api_Turn_107.bits23 : waitsOk api_Turn_107.T23.2 api_Turn_107.B23 = true := by kernel_rfl
def api_Turn_107.T35 : Bool × List (List Nat × List Nat) := (true, [([], []), ([], []), ([], []), ([], []), ([2, 3], [2, 3]), ([1, 4], [1, 4]), ([5], [5]), ([], []), ([], []), ([7, 8], [7, 8]), ([9], [9]), ([0, 6, 10], [0, 6, 10]), ([11], [11]), ([12], [12])])
def api_Turn_107.B35 : List Nat := [0, 0, 0, 0, 12, 30, 62, 0, 0, 384, 896, 2047, 4095, 8191]
theorem api_Turn_107.tab35 : rtab .any (opsOf Try.f107 35) = api_Turn_107.T35 := by kernel_rfl
theorem api_Turn_107.bits35 : waitsOk api_Turn_107.T35.2 api_Turn_107.B35 = true := by kernel_rfl
set_option maxHeartbeats 8000000 in
set_option maxRecDepth 100000 in
theorem api_Turn_107.calls (k : Nat) : ∀ (P0_ : Nat → Prop) (u9000_ : Value) (l0 : List (S65)) (a1 : Int) (a2 : Int) (a3 : Int) (a4 : Int) (r : List (S65)) (w0 w : World) (hB : Below w0.heap.size w0 w) (ho0 : Kd.R k65 65 w w0.heap.size P0_ u9000_ l0) (h : api_Turn_107.f k l0 a1 a2 a3 a4 = some r),
 Calls Try.prog 107 #[u9000_, .int .i64 a1, .int .i64 a2, .int .i64 a3, .func (.func 79) #[] #[]] w fun e w' => e = .returned (.tuple #[]) ∧ Kd.R k65 65 w' w0.heap.size (fun k_ => (P0_ k_ ∨ w.heap.size ≤ k_)) u9000_ r ∧ Below w0.heap.size w0 w' ∧ Kept w w' (fun k_ => P0_ k_) := by
 induction k using Nat.strongRecOn with
 | _ k ih =>
 intro P0_ u9000_ l0 a1 a2 a3 a4 r w0 w hB ho0 h
 cases k with
 | zero => exact absurd h (by simp [api_Turn_107.f])
 | succ k =>
 simp only [api_Turn_107.f] at h
 have hu65 := Try.underlying65
 have HO0 := Aside0.mk (show Kd.R k65 65 w w0.heap.size (fun k_ => (P0_ k_ ∨ w.heap.size ≤ k_)) u9000_ l0 from Kd.R_mono ho0 (fun k_ hk => (.inl hk)))
 have HK := Aside0.mk (Kept.refl w (fun k_ => P0_ k_))
 have HW0 := Aside0.mk hB.size
 have HB := Aside0.mk hB
 clear hB
 have H : (if (wrap64 (a2 - a1)) = 1 then (api_Turn_107.l0 k l0 a1 a2 a3) else (if (wrap64 (a3 - a2)) = 1 then (api_Turn_107.l2 k l0 a2 a1 a2) else (if a2 > (wrap64 ((IntKind.u64.wrap (wrap64 (a1 + a3))) / 2)) then (api_Turn_107.j4 k l0 a1 a2 a3 a4 (wrap64 ((IntKind.u64.wrap (wrap64 (a1 + a3))) / 2)) (wrap64 ((wrap64 ((IntKind.u64.wrap (wrap64 (a1 + a3))) / 2)) + a2)) (wrap64 ((wrap64 ((wrap64 ((IntKind.u64.wrap (wrap64 (a1 + a3))) / 2)) + a2)) - a3)) (wrap64 ((IntKind.u64.wrap (wrap64 (a1 + a3))) / 2))) else (api_Turn_107.j4 k l0 a1 a2 a3 a4 (wrap64 ((IntKind.u64.wrap (wrap64 (a1 + a3))) / 2)) (wrap64 ((wrap64 ((IntKind.u64.wrap (wrap64 (a1 + a3))) / 2)) + a2)) a1 a2)))) = some r := h
 clear h
 by_cases c6 : (wrap64 (a2 - a1)) = 1
 ·rw [if_pos c6] at H
  have c6b0 : ((wrap64 (a2 - a1)) == 1) = true := beq_iff_eq.mpr c6
  have c6b1 : ((wrap64 (a2 - a1)) != 1) = false := bne_eq_false_iff_eq.mpr c6
  clear c6
  have H' := Aside0.mk H
  clear H
  go_enter Try.func107, Try.ntmps107
  go_wp2
  go_loopg [10, 11] k (fun kq v10 v11 w' => ∃ (x10_1 : Int) (x11_1 : Int), v10 = .int .i64 x10_1 ∧ v11 = .int .i64 x11_1 ∧ Aside0 (api_Turn_107.l0 kq l0 a1 x10_1 x11_1 = some r) ∧ Aside0 (kq ≤ k) ∧ Aside0 (Kd.R k65 65 w' w0.heap.size (fun k_ => (P0_ k_ ∨ w.heap.size ≤ k_)) u9000_ l0) ∧ Aside0 (Kept w w' (fun k_ => P0_ k_)) ∧ Aside0 (Below w0.heap.size w0 w'))
  case atStart => exact ⟨(a2), (a3), (by first | rfl | (simp; done) | (simp [*]; done)), (by first | rfl | (simp; done) | (simp [*]; done)), H', ⟨Nat.le_refl _⟩, ⟨by (with_reducible repeat (first | apply Kd.R_alloc | apply Kd.R_drewN | apply Kd.R_drew)); exact HO0.out⟩, ⟨by repeat (first | (with_reducible first | exact HK.out | apply Kept.alloc | apply Kept.drewN | apply Kept.drew) | exact HK.out)⟩, ⟨by repeat (with_reducible first | exact HB.out | apply pw_below_drewN | apply below_drew1)⟩⟩
  case round =>
   clear H'
   try clear c1; try clear p2; try clear c6; try clear c6b0; try clear c6b1; try clear p6
   obtain ⟨x10_1, x11_1, rfl, rfl, HA, HK1, HO_0, HK, HB⟩ := hrel
   cases gk with
   | zero => exact absurd HA.out (by simp [api_Turn_107.l0])
   | succ k1 =>
    have H := HA.out
    clear HA
    simp only [api_Turn_107.l0] at H
    by_cases c7 : x10_1 < x11_1
    ·rw [if_pos c7] at H
     have c7b0 : decide (x10_1 < x11_1) = true := decide_eq_true c7
     clear c7
     obtain ⟨ji8, hji8⟩ : ∃ j_ : Int, (wrap64 ((IntKind.u64.wrap (wrap64 (x10_1 + x11_1))) / 2)) = j_ := ⟨_, rfl⟩
     replace H : (if 0 ≤ (ji8) then (if (ji8) < (l0.length : Int) then (if 0 ≤ a1 then (if a1 < (l0.length : Int) then ((due_Order_1.f k1 ((rd_T65 l0 (ji8)).f0) ((rd_T65 l0 (ji8)).f1.f0) ((rd_T65 l0 (ji8)).f1.f1) ((rd_T65 l0 (ji8)).f2) ((rd_T65 l0 a1).f0) ((rd_T65 l0 a1).f1.f0) ((rd_T65 l0 a1).f1.f1) ((rd_T65 l0 a1).f2)).bind fun t215 => (if t215 < 0 then (api_Turn_107.l0 k1 l0 a1 (wrap64 ((ji8) + 1)) x11_1) else (api_Turn_107.l0 k1 l0 a1 x10_1 ji8))) else (none)) else (none)) else (none)) else (none)) = some r := by first | (rw [hji8] at H; exact H) | (simp only [hji8] at H ⊢; exact H)
     have hji8w : (IntKind.i64.wrap ((IntKind.u64.wrap (wrap64 (x10_1 + x11_1))) / 2)) = ji8 := (i64_w _).trans hji8
     by_cases c9 : 0 ≤ (ji8)
     ·rw [if_pos c9] at H
      have c9b0 : decide (0 ≤ (ji8)) = true := decide_eq_true c9
      clear c9
      by_cases c10 : (ji8) < (l0.length : Int)
      ·rw [if_pos c10] at H
       have c10b0 : decide ((ji8) < (l0.length : Int)) = true := decide_eq_true c10
       clear c10
       by_cases c11 : 0 ≤ a1
       ·rw [if_pos c11] at H
        have c11b0 : decide (0 ≤ a1) = true := decide_eq_true c11
        clear c11
        by_cases c12 : a1 < (l0.length : Int)
        ·rw [if_pos c12] at H
         have c12b0 : decide (a1 < (l0.length : Int)) = true := decide_eq_true c12
         clear c12
         replace H := Option.bind_eq_some_iff.mp H
         obtain ⟨t215, A130, H⟩ := H
         try dsimp only at H
         have A13 := Aside0.mk A130
         clear A130
         by_cases c14 : t215 < 0
         ·rw [if_pos c14] at H
          have c14b0 : decide (t215 < 0) = true := decide_eq_true c14
          clear c14
          have H' := Aside0.mk H
          clear H
          try go_wp2
          replace HO_0 := Aside0.mk (Kd.R_drew HO_0.out)
          replace HK := Aside0.mk (Kept.drew HK.out)
          replace HB := Aside0.mk (below_drew1 HB.out)
          obtain ⟨Ao16, co16, eo16⟩ := Kd.R_slice HO_0.out
          (first | subst eo16 | (injection eo16 with f1_ f2_ f3_; have f4_ := f1_.symm; have f5_ := f3_.symm; clear f1_ f2_ f3_; subst f4_; subst f5_))
          have p213 : 0 ≤ ((ji8) : Int) := of_decide_eq_true (by first | (with_reducible assumption) | assumption)
          have q213 : (ji8) < (l0.length : Int) := of_decide_eq_true (by first | (with_reducible assumption) | assumption)
          obtain ⟨ad213, e213, hx213_0, hx213_1, hx213_2, hx213_3⟩ := at_T65 (Kd.R_reads' HO_0.out).2.2 (ji8) p213 q213
          cases e213
          replace p213 := eq_true p213
          replace q213 := eq_true q213
          have p214 : 0 ≤ (a1 : Int) := of_decide_eq_true (by first | (with_reducible assumption) | assumption)
          have q214 : a1 < (l0.length : Int) := of_decide_eq_true (by first | (with_reducible assumption) | assumption)
          obtain ⟨ad214, e214, hx214_0, hx214_1, hx214_2, hx214_3⟩ := at_T65 (Kd.R_reads' HO_0.out).2.2 a1 p214 q214
          obtain rfl : ad213 = ad214 := (by injection e214)
          replace p214 := eq_true p214
          replace q214 := eq_true q214
          refine start_ (n := 11) (S := fun w' => w'.cell? (ad213.add (((ji8)).toNat * 4)) = some (.int .i64 ((rd_T65 l0 (ji8)).f0)) ∧ w'.cell? ⟨(ad213.add (((ji8)).toNat * 4)).block, (ad213.add (((ji8)).toNat * 4)).off + 1, none⟩ = some (.int .i64 ((rd_T65 l0 (ji8)).f1.f0)) ∧ w'.cell? ⟨(ad213.add (((ji8)).toNat * 4)).block, (ad213.add (((ji8)).toNat * 4)).off + 2, none⟩ = some (.int .i64 ((rd_T65 l0 (ji8)).f1.f1)) ∧ w'.cell? ⟨(ad213.add (((ji8)).toNat * 4)).block, (ad213.add (((ji8)).toNat * 4)).off + 3, none⟩ = some (.int .i64 ((rd_T65 l0 (ji8)).f2)) ∧ w'.cell? (ad213.add ((a1).toNat * 4)) = some (.int .i64 ((rd_T65 l0 a1).f0)) ∧ w'.cell? ⟨(ad213.add ((a1).toNat * 4)).block, (ad213.add ((a1).toNat * 4)).off + 1, none⟩ = some (.int .i64 ((rd_T65 l0 a1).f1.f0)) ∧ w'.cell? ⟨(ad213.add ((a1).toNat * 4)).block, (ad213.add ((a1).toNat * 4)).off + 2, none⟩ = some (.int .i64 ((rd_T65 l0 a1).f1.f1)) ∧ w'.cell? ⟨(ad213.add ((a1).toNat * 4)).block, (ad213.add ((a1).toNat * 4)).off + 3, none⟩ = some (.int .i64 ((rd_T65 l0 a1).f2))) (ds := []) #[false, false, false, false, false, false, false, false, false, false, false] (by kernel_rfl) rfl rfl ⟨hx213_0, hx213_1, hx213_2, hx213_3, hx214_0, hx214_1, hx214_2, hx214_3⟩ (fun hHeld => ?_); refine with_tabW api_Turn_107.tab5 api_Turn_107.bits5 (fun HT_ HW_ => ?_)
          generalize wr.drew = w15 at HO_0 HK HB hx213_0 hx213_1 hx213_2 hx213_3 hx214_0 hx214_1 hx214_2 hx214_3 hHeld ⊢
          have Q_ := Qs.mk (n := 11) [(0, 0, 40, 1), (0, 1, 41, 3), (0, 2, 42, 7), (0, 3, 43, 15), (0, 5, 45, 47), (0, 6, 46, 111), (0, 7, 47, 239), (2, 4, 44, 255), (2, 8, 48, 511)]
          iterate 9 (first | (obtain ⟨q_, Q_⟩ := Qs.p Q_; refine pureQ_ q_ (v := ?_) (a' := ?_) rfl rfl (any_of HT_.out (by kernel_rfl)) (fun _ _ _ h => h) (Or.inl ⟨by rfl, ?_⟩) ?_ ?_; rotate_left; (intro w'; go_simp; with_reducible rfl); rotate_left; (simp only [Act.put, List.setIfInBounds_toArray, List.set_cons_zero, List.set_cons_succ, i64_w, i32_w]; rfl)) | (obtain ⟨q_, Q_⟩ := Qs.t Q_; refine takeQ_ q_ (v := ?_) (a' := ?_) rfl rfl (take_ofW HT_.out HW_.out (by kernel_rfl)) (fun _ _ _ h => h) (Or.inl ⟨by rfl, ?_⟩) hHeld ?_ ?_; rotate_left; (rintro w' ⟨s0, s1, s2, s3, s4, s5, s6, s7⟩; go_simp; with_reducible rfl); rotate_left; (simp only [Act.put, List.setIfInBounds_toArray, List.set_cons_zero, List.set_cons_succ, i64_w, i32_w]; rfl)))
          clear Q_
          refine one_ (i := 9) (N := some 49) (dn_ 10 11) rfl rfl (one_of HT_.out (by kernel_rfl)) (by decide) (fun K hK => ?_)
          refine goesV_ Try.func79 (by kernel_rfl) rfl #[.agg #[.int .i64 ((rd_T65 l0 (ji8)).f0), .int .i64 ((rd_T65 l0 (ji8)).f1.f0), .int .i64 ((rd_T65 l0 (ji8)).f1.f1), .int .i64 ((rd_T65 l0 (ji8)).f2)], .agg #[.int .i64 ((rd_T65 l0 a1).f0), .int .i64 ((rd_T65 l0 a1).f1.f0), .int .i64 ((rd_T65 l0 a1).f1.f1), .int .i64 ((rd_T65 l0 a1).f2)]] (by rfl) rfl rfl (by (try simp only [List.map_toArray, List.map_cons, List.map_nil]); first | done | (simp only [hji8]; rfl) | rfl | (simp only [List.length_drop, List.length_take]; rfl)) (by rfl) ?_
          with_reducible refine (due_Order_1.calls k1 ((rd_T65 l0 (ji8)).f0) ((rd_T65 l0 (ji8)).f1.f0) ((rd_T65 l0 (ji8)).f1.f1) ((rd_T65 l0 (ji8)).f2) ((rd_T65 l0 a1).f0) ((rd_T65 l0 a1).f1.f0) ((rd_T65 l0 a1).f1.f1) ((rd_T65 l0 a1).f2) t215 _ A13.out).mono ?_
          rintro e w17 ⟨rfl, hb⟩
          have HS0_ := (hb.cell (World.block_lt_of_cell? _ _ (hHeld.1))).trans (hHeld.1)
          have HS1_ := (hb.cell (World.block_lt_of_cell? _ _ (hHeld.2.1))).trans (hHeld.2.1)
          have HS2_ := (hb.cell (World.block_lt_of_cell? _ _ (hHeld.2.2.1))).trans (hHeld.2.2.1)
          have HS3_ := (hb.cell (World.block_lt_of_cell? _ _ (hHeld.2.2.2.1))).trans (hHeld.2.2.2.1)
          have HS4_ := (hb.cell (World.block_lt_of_cell? _ _ (hHeld.2.2.2.2.1))).trans (hHeld.2.2.2.2.1)
          have HS5_ := (hb.cell (World.block_lt_of_cell? _ _ (hHeld.2.2.2.2.2.1))).trans (hHeld.2.2.2.2.2.1)
          have HS6_ := (hb.cell (World.block_lt_of_cell? _ _ (hHeld.2.2.2.2.2.2.1))).trans (hHeld.2.2.2.2.2.2.1)
          have HS7_ := (hb.cell (World.block_lt_of_cell? _ _ (hHeld.2.2.2.2.2.2.2))).trans (hHeld.2.2.2.2.2.2.2)
          refine ⟨_, rfl, ?_⟩
          replace HO_0 := rb_ HO_0 hb
          replace HK := Aside0.mk (Kept.below (S := (fun k_ => P0_ k_)) (by repeat (first | (with_reducible first | exact HK.out | apply Kept.alloc | apply Kept.drewN | apply Kept.drew) | exact HK.out)) hb)
          replace HB := Aside0.mk (below_step HB.out hb)
          (try clear hb)
          (try clear hb2)
          (try clear hk)
          (try clear hi)
          refine hK.out _ _ ⟨HS0_, HS1_, HS2_, HS3_, HS4_, HS5_, HS6_, HS7_⟩ (fun hHeld => ?_)
          clear hK K
          refine norm_ (a' := ?_) ?_ ?_
          rotate_left
          ·show Act.put _ (some 49) _ = _
           simp only [Act.put, List.setIfInBounds_toArray, List.set_cons_zero, List.set_cons_succ, i64_w, i32_w]
           rfl
          refine pure_ (i := 10) (N := some 50) (v := ?_) (a' := ?_) #[true, true, true, true, true, true, true, true, true, true, true] rfl rfl (any_of HT_.out (by kernel_rfl)) (fun _ _ _ h => h) (Or.inl ⟨by rfl, ?_⟩) ?_ ?_
          rotate_left
          ·intro w'
           go_simp
           with_reducible rfl
          rotate_left; (simp only [Act.put, List.setIfInBounds_toArray, List.set_cons_zero, List.set_cons_succ, i64_w, i32_w]; rfl)
          refine done_ (done_of HT_.out (by kernel_rfl)) ?_
          try go_wp2
          go_roundg k1
          case measure => have := HK1.out; omega
          case rel => exact ⟨(wrap64 ((ji8) + 1)), (x11_1), (by first | rfl | (simp; done) | (simp only [← hji8] <;> (first | rfl | simp)) | (simp [*]; done)), (by first | rfl | (simp; done) | (simp [*]; done)), H', ⟨by have := HK1.out; omega⟩, ⟨by (with_reducible repeat (first | apply Kd.R_alloc | apply Kd.R_drewN | apply Kd.R_drew)); exact HO_0.out⟩, ⟨by repeat (first | (with_reducible first | exact HK.out | apply Kept.alloc | apply Kept.drewN | apply Kept.drew) | exact HK.out)⟩, ⟨by repeat (with_reducible first | exact HB.out | apply pw_below_drewN | apply below_drew1)⟩⟩
         ·rw [if_neg c14] at H
          have c14b0 : decide (t215 < 0) = false := decide_eq_false c14
          clear c14
          have H' := Aside0.mk H
          clear H
          try go_wp2
          replace HO_0 := Aside0.mk (Kd.R_drew HO_0.out)
          replace HK := Aside0.mk (Kept.drew HK.out)
          replace HB := Aside0.mk (below_drew1 HB.out)
          obtain ⟨Ao19, co19, eo19⟩ := Kd.R_slice HO_0.out
          (first | subst eo19 | (injection eo19 with f1_ f2_ f3_; have f4_ := f1_.symm; have f5_ := f3_.symm; clear f1_ f2_ f3_; subst f4_; subst f5_))
          have p213 : 0 ≤ ((ji8) : Int) := of_decide_eq_true (by first | (with_reducible assumption) | assumption)
          have q213 : (ji8) < (l0.length : Int) := of_decide_eq_true (by first | (with_reducible assumption) | assumption)
          obtain ⟨ad213, e213, hx213_0, hx213_1, hx213_2, hx213_3⟩ := at_T65 (Kd.R_reads' HO_0.out).2.2 (ji8) p213 q213
          cases e213
          replace p213 := eq_true p213
          replace q213 := eq_true q213
          have p214 : 0 ≤ (a1 : Int) := of_decide_eq_true (by first | (with_reducible assumption) | assumption)
          have q214 : a1 < (l0.length : Int) := of_decide_eq_true (by first | (with_reducible assumption) | assumption)
          obtain ⟨ad214, e214, hx214_0, hx214_1, hx214_2, hx214_3⟩ := at_T65 (Kd.R_reads' HO_0.out).2.2 a1 p214 q214
          obtain rfl : ad213 = ad214 := (by injection e214)
          replace p214 := eq_true p214
          replace q214 := eq_true q214
          refine start_ (n := 11) (S := fun w' => w'.cell? (ad213.add (((ji8)).toNat * 4)) = some (.int .i64 ((rd_T65 l0 (ji8)).f0)) ∧ w'.cell? ⟨(ad213.add (((ji8)).toNat * 4)).block, (ad213.add (((ji8)).toNat * 4)).off + 1, none⟩ = some (.int .i64 ((rd_T65 l0 (ji8)).f1.f0)) ∧ w'.cell? ⟨(ad213.add (((ji8)).toNat * 4)).block, (ad213.add (((ji8)).toNat * 4)).off + 2, none⟩ = some (.int .i64 ((rd_T65 l0 (ji8)).f1.f1)) ∧ w'.cell? ⟨(ad213.add (((ji8)).toNat * 4)).block, (ad213.add (((ji8)).toNat * 4)).off + 3, none⟩ = some (.int .i64 ((rd_T65 l0 (ji8)).f2)) ∧ w'.cell? (ad213.add ((a1).toNat * 4)) = some (.int .i64 ((rd_T65 l0 a1).f0)) ∧ w'.cell? ⟨(ad213.add ((a1).toNat * 4)).block, (ad213.add ((a1).toNat * 4)).off + 1, none⟩ = some (.int .i64 ((rd_T65 l0 a1).f1.f0)) ∧ w'.cell? ⟨(ad213.add ((a1).toNat * 4)).block, (ad213.add ((a1).toNat * 4)).off + 2, none⟩ = some (.int .i64 ((rd_T65 l0 a1).f1.f1)) ∧ w'.cell? ⟨(ad213.add ((a1).toNat * 4)).block, (ad213.add ((a1).toNat * 4)).off + 3, none⟩ = some (.int .i64 ((rd_T65 l0 a1).f2))) (ds := []) #[false, false, false, false, false, false, false, false, false, false, false] (by kernel_rfl) rfl rfl ⟨hx213_0, hx213_1, hx213_2, hx213_3, hx214_0, hx214_1, hx214_2, hx214_3⟩ (fun hHeld => ?_); refine with_tabW api_Turn_107.tab5 api_Turn_107.bits5 (fun HT_ HW_ => ?_)
          generalize wr.drew = w18 at HO_0 HK HB hx213_0 hx213_1 hx213_2 hx213_3 hx214_0 hx214_1 hx214_2 hx214_3 hHeld ⊢
          have Q_ := Qs.mk (n := 11) [(0, 0, 40, 1), (0, 1, 41, 3), (0, 2, 42, 7), (0, 3, 43, 15), (0, 5, 45, 47), (0, 6, 46, 111), (0, 7, 47, 239), (2, 4, 44, 255), (2, 8, 48, 511)]
          iterate 9 (first | (obtain ⟨q_, Q_⟩ := Qs.p Q_; refine pureQ_ q_ (v := ?_) (a' := ?_) rfl rfl (any_of HT_.out (by kernel_rfl)) (fun _ _ _ h => h) (Or.inl ⟨by rfl, ?_⟩) ?_ ?_; rotate_left; (intro w'; go_simp; with_reducible rfl); rotate_left; (simp only [Act.put, List.setIfInBounds_toArray, List.set_cons_zero, List.set_cons_succ, i64_w, i32_w]; rfl)) | (obtain ⟨q_, Q_⟩ := Qs.t Q_; refine takeQ_ q_ (v := ?_) (a' := ?_) rfl rfl (take_ofW HT_.out HW_.out (by kernel_rfl)) (fun _ _ _ h => h) (Or.inl ⟨by rfl, ?_⟩) hHeld ?_ ?_; rotate_left; (rintro w' ⟨s0, s1, s2, s3, s4, s5, s6, s7⟩; go_simp; with_reducible rfl); rotate_left; (simp only [Act.put, List.setIfInBounds_toArray, List.set_cons_zero, List.set_cons_succ, i64_w, i32_w]; rfl)))
          clear Q_
          refine one_ (i := 9) (N := some 49) (dn_ 10 11) rfl rfl (one_of HT_.out (by kernel_rfl)) (by decide) (fun K hK => ?_)
          refine goesV_ Try.func79 (by kernel_rfl) rfl #[.agg #[.int .i64 ((rd_T65 l0 (ji8)).f0), .int .i64 ((rd_T65 l0 (ji8)).f1.f0), .int .i64 ((rd_T65 l0 (ji8)).f1.f1), .int .i64 ((rd_T65 l0 (ji8)).f2)], .agg #[.int .i64 ((rd_T65 l0 a1).f0), .int .i64 ((rd_T65 l0 a1).f1.f0), .int .i64 ((rd_T65 l0 a1).f1.f1), .int .i64 ((rd_T65 l0 a1).f2)]] (by rfl) rfl rfl (by (try simp only [List.map_toArray, List.map_cons, List.map_nil]); first | done | (simp only [hji8]; rfl) | rfl | (simp only [List.length_drop, List.length_take]; rfl)) (by rfl) ?_
          with_reducible refine (due_Order_1.calls k1 ((rd_T65 l0 (ji8)).f0) ((rd_T65 l0 (ji8)).f1.f0) ((rd_T65 l0 (ji8)).f1.f1) ((rd_T65 l0 (ji8)).f2) ((rd_T65 l0 a1).f0) ((rd_T65 l0 a1).f1.f0) ((rd_T65 l0 a1).f1.f1) ((rd_T65 l0 a1).f2) t215 _ A13.out).mono ?_
          rintro e w20 ⟨rfl, hb⟩
          have HS0_ := (hb.cell (World.block_lt_of_cell? _ _ (hHeld.1))).trans (hHeld.1)
          have HS1_ := (hb.cell (World.block_lt_of_cell? _ _ (hHeld.2.1))).trans (hHeld.2.1)
          have HS2_ := (hb.cell (World.block_lt_of_cell? _ _ (hHeld.2.2.1))).trans (hHeld.2.2.1)
          have HS3_ := (hb.cell (World.block_lt_of_cell? _ _ (hHeld.2.2.2.1))).trans (hHeld.2.2.2.1)
          have HS4_ := (hb.cell (World.block_lt_of_cell? _ _ (hHeld.2.2.2.2.1))).trans (hHeld.2.2.2.2.1)
          have HS5_ := (hb.cell (World.block_lt_of_cell? _ _ (hHeld.2.2.2.2.2.1))).trans (hHeld.2.2.2.2.2.1)
          have HS6_ := (hb.cell (World.block_lt_of_cell? _ _ (hHeld.2.2.2.2.2.2.1))).trans (hHeld.2.2.2.2.2.2.1)
          have HS7_ := (hb.cell (World.block_lt_of_cell? _ _ (hHeld.2.2.2.2.2.2.2))).trans (hHeld.2.2.2.2.2.2.2)
          refine ⟨_, rfl, ?_⟩
          replace HO_0 := rb_ HO_0 hb
          replace HK := Aside0.mk (Kept.below (S := (fun k_ => P0_ k_)) (by repeat (first | (with_reducible first | exact HK.out | apply Kept.alloc | apply Kept.drewN | apply Kept.drew) | exact HK.out)) hb)
          replace HB := Aside0.mk (below_step HB.out hb)
          (try clear hb)
          (try clear hb2)
          (try clear hk)
          (try clear hi)
          refine hK.out _ _ ⟨HS0_, HS1_, HS2_, HS3_, HS4_, HS5_, HS6_, HS7_⟩ (fun hHeld => ?_)
          clear hK K
          refine norm_ (a' := ?_) ?_ ?_
          rotate_left
          ·show Act.put _ (some 49) _ = _
           simp only [Act.put, List.setIfInBounds_toArray, List.set_cons_zero, List.set_cons_succ, i64_w, i32_w]
           rfl
          refine pure_ (i := 10) (N := some 50) (v := ?_) (a' := ?_) #[true, true, true, true, true, true, true, true, true, true, true] rfl rfl (any_of HT_.out (by kernel_rfl)) (fun _ _ _ h => h) (Or.inl ⟨by rfl, ?_⟩) ?_ ?_
          rotate_left
          ·intro w'
           go_simp
           with_reducible rfl
          rotate_left; (simp only [Act.put, List.setIfInBounds_toArray, List.set_cons_zero, List.set_cons_succ, i64_w, i32_w]; rfl)
          refine done_ (done_of HT_.out (by kernel_rfl)) ?_
          try go_wp2
          go_roundg k1
          case measure => have := HK1.out; omega
          case rel => exact ⟨(x10_1), (ji8), (by first | rfl | (simp; done) | (simp [*]; done)), (by first | rfl | (simp; done) | (simp only [← hji8] <;> (first | rfl | simp)) | (simp [*]; done)), H', ⟨by have := HK1.out; omega⟩, ⟨by (with_reducible repeat (first | apply Kd.R_alloc | apply Kd.R_drewN | apply Kd.R_drew)); exact HO_0.out⟩, ⟨by repeat (first | (with_reducible first | exact HK.out | apply Kept.alloc | apply Kept.drewN | apply Kept.drew) | exact HK.out)⟩, ⟨by repeat (with_reducible first | exact HB.out | apply pw_below_drewN | apply below_drew1)⟩⟩
        ·rw [if_neg c12] at H
         exact absurd H (by simp)
       ·rw [if_neg c11] at H
        exact absurd H (by simp)
      ·rw [if_neg c10] at H
       exact absurd H (by simp)
     ·rw [if_neg c9] at H
      exact absurd H (by simp)
    ·rw [if_neg c7] at H
     have c7b0 : decide (x10_1 < x11_1) = false := decide_eq_false c7
     clear c7
     have H' := Aside0.mk H
     clear H
     go_wp2
     go_loopg [13] k1 (fun kq v13 w' => ∃ (x0_2 : List (S65)) (x13_2 : Int), v13 = .int .i64 x13_2 ∧ Aside0 (api_Turn_107.l1 kq x0_2 x10_1 x13_2 = some r) ∧ Aside0 (kq ≤ k1) ∧ Aside0 (Kd.R k65 65 w' w0.heap.size (fun k_ => (P0_ k_ ∨ w.heap.size ≤ k_)) u9000_ x0_2) ∧ Aside0 (Kept w w' (fun k_ => P0_ k_)) ∧ Aside0 (Below w0.heap.size w0 w'))
     case atStart => exact ⟨(l0), (a1), (by first | rfl | (simp; done) | (simp [*]; done)), H', ⟨Nat.le_refl _⟩, ⟨by (with_reducible repeat (first | apply Kd.R_alloc | apply Kd.R_drewN | apply Kd.R_drew)); exact HO_0.out⟩, ⟨by repeat (first | (with_reducible first | exact HK.out | apply Kept.alloc | apply Kept.drewN | apply Kept.drew) | exact HK.out)⟩, ⟨by repeat (with_reducible first | exact HB.out | apply pw_below_drewN | apply below_drew1)⟩⟩
     case round =>
      clear H'
      try clear c1; try clear p2; try clear q2; try clear hx2; try clear c6; try clear c6b0; try clear c6b1; try clear p6; try clear c7; try clear c7b0; try clear c9; try clear c9b0; try clear c10; try clear c10b0; try clear c11; try clear c11b0; try clear c12; try clear c12b0; try clear c14; try clear c14b0; try clear hx213_0; try clear hx213_1; try clear hx213_2; try clear hx213_3; try clear hx214_0; try clear hx214_1; try clear hx214_2; try clear hx214_3; try clear p2; try clear p213; try clear p214; try clear p6; try clear q213; try clear q214
      obtain ⟨x0_2, x13_2, rfl, HA, HK2, HO_0, HK, HB⟩ := hrel
      cases gk with
      | zero => exact absurd HA.out (by simp [api_Turn_107.l1])
      | succ k2 =>
       have H := HA.out
       clear HA
       simp only [api_Turn_107.l1] at H
       by_cases c21 : x13_2 < (wrap64 (x10_1 - 1))
       ·rw [if_pos c21] at H
        have c21b0 : decide (x13_2 < (wrap64 (x10_1 - 1))) = true := decide_eq_true c21
        clear c21
        obtain ⟨ji22, hji22⟩ : ∃ j_ : Int, (wrap64 (x13_2 + 1)) = j_ := ⟨_, rfl⟩
        replace H : (if 0 ≤ (ji22) then (if (ji22) < (x0_2.length : Int) then (if 0 ≤ x13_2 then (if x13_2 < (x0_2.length : Int) then (api_Turn_107.l1 k2 ((x0_2.set (x13_2 : Int).toNat (⟨(rd_T65 x0_2 (ji22)).f0, (⟨(rd_T65 x0_2 (ji22)).f1.f0, (rd_T65 x0_2 (ji22)).f1.f1⟩ : S26), (rd_T65 x0_2 (ji22)).f2⟩ : S65)).set ((ji22) : Int).toNat (⟨(rd_T65 x0_2 x13_2).f0, (⟨(rd_T65 x0_2 x13_2).f1.f0, (rd_T65 x0_2 x13_2).f1.f1⟩ : S26), (rd_T65 x0_2 x13_2).f2⟩ : S65)) x10_1 ji22) else (none)) else (none)) else (none)) else (none)) = some r := by first | (rw [hji22] at H; exact H) | (simp only [hji22] at H ⊢; exact H)
        have hji22w : (IntKind.i64.wrap (x13_2 + 1)) = ji22 := (i64_w _).trans hji22
        by_cases c23 : 0 ≤ (ji22)
        ·rw [if_pos c23] at H
         have c23b0 : decide (0 ≤ (ji22)) = true := decide_eq_true c23
         clear c23
         by_cases c24 : (ji22) < (x0_2.length : Int)
         ·rw [if_pos c24] at H
          have c24b0 : decide ((ji22) < (x0_2.length : Int)) = true := decide_eq_true c24
          clear c24
          by_cases c25 : 0 ≤ x13_2
          ·rw [if_pos c25] at H
           have c25b0 : decide (0 ≤ x13_2) = true := decide_eq_true c25
           clear c25
           by_cases c26 : x13_2 < (x0_2.length : Int)
           ·rw [if_pos c26] at H
            have c26b0 : decide (x13_2 < (x0_2.length : Int)) = true := decide_eq_true c26
            clear c26
            obtain ⟨y218, hy218⟩ : ∃ y_ : List (S65), y_ = (x0_2.set (x13_2 : Int).toNat (⟨(rd_T65 x0_2 (ji22)).f0, (⟨(rd_T65 x0_2 (ji22)).f1.f0, (rd_T65 x0_2 (ji22)).f1.f1⟩ : S26), (rd_T65 x0_2 (ji22)).f2⟩ : S65)) := ⟨_, rfl⟩
            replace H : (api_Turn_107.l1 k2 (y218.set ((ji22) : Int).toNat (⟨(rd_T65 x0_2 x13_2).f0, (⟨(rd_T65 x0_2 x13_2).f1.f0, (rd_T65 x0_2 x13_2).f1.f1⟩ : S26), (rd_T65 x0_2 x13_2).f2⟩ : S65)) x10_1 ji22) = some r := by first | (rw [hy218]; with_reducible exact H) | (have H2_ := (Option.bind_some _ _).symm.trans H; rw [hy218]; with_reducible exact H2_) | (have H2_ := (Option.bind_some _ _).symm.trans H; with_reducible exact H2_) | with_reducible exact H | (rw [hy218]; exact H) | exact H
            have Ny218 := Aside0.mk hy218
            clear hy218
            obtain ⟨y219, hy219⟩ : ∃ y_ : List (S65), y_ = (y218.set ((ji22) : Int).toNat (⟨(rd_T65 x0_2 x13_2).f0, (⟨(rd_T65 x0_2 x13_2).f1.f0, (rd_T65 x0_2 x13_2).f1.f1⟩ : S26), (rd_T65 x0_2 x13_2).f2⟩ : S65)) := ⟨_, rfl⟩
            replace H : (api_Turn_107.l1 k2 y219 x10_1 ji22) = some r := by first | (rw [hy219]; with_reducible exact H) | (have H2_ := (Option.bind_some _ _).symm.trans H; rw [hy219]; with_reducible exact H2_) | (have H2_ := (Option.bind_some _ _).symm.trans H; with_reducible exact H2_) | with_reducible exact H | (rw [hy219]; exact H) | exact H
            have Ny219 := Aside0.mk hy219
            clear hy219
            have H' := Aside0.mk H
            clear H
            try go_wp2
            replace HO_0 := Aside0.mk (Kd.R_drew HO_0.out)
            replace HK := Aside0.mk (Kept.drew HK.out)
            replace HB := Aside0.mk (below_drew1 HB.out)
            obtain ⟨Ao30, co30, eo30⟩ := Kd.R_slice HO_0.out
            (first | subst eo30 | (injection eo30 with f1_ f2_ f3_; have f4_ := f1_.symm; have f5_ := f3_.symm; clear f1_ f2_ f3_; subst f4_; subst f5_))
            have p216 : 0 ≤ ((ji22) : Int) := of_decide_eq_true (by first | (with_reducible assumption) | assumption)
            have q216 : (ji22) < (x0_2.length : Int) := of_decide_eq_true (by first | (with_reducible assumption) | assumption)
            obtain ⟨ad216, e216, hx216_0, hx216_1, hx216_2, hx216_3⟩ := at_T65 (Kd.R_reads' HO_0.out).2.2 (ji22) p216 q216
            cases e216
            replace p216 := eq_true p216
            replace q216 := eq_true q216
            have p217 : 0 ≤ (x13_2 : Int) := of_decide_eq_true (by first | (with_reducible assumption) | assumption)
            have q217 : x13_2 < (x0_2.length : Int) := of_decide_eq_true (by first | (with_reducible assumption) | assumption)
            obtain ⟨ad217, e217, hx217_0, hx217_1, hx217_2, hx217_3⟩ := at_T65 (Kd.R_reads' HO_0.out).2.2 x13_2 p217 q217
            obtain rfl : ad216 = ad217 := (by injection e217)
            replace p217 := eq_true p217
            replace q217 := eq_true q217
            have p27 : 0 ≤ (x13_2 : Int) := of_decide_eq_true (by first | (with_reducible assumption) | assumption)
            have q27 : (x13_2 : Int) < ((x0_2.length : Int) : Int) := of_decide_eq_true (by first | (with_reducible assumption) | assumption)
            obtain ⟨go27, co27, eo27, gb27, gl27, cl27, HG27⟩ := Kd.R_form HO_0.out (by omega)
            (first | cases eo27 | (injection eo27 with ea_ en_ ec_; (first | subst ea_ | (injection ea_ with ea_; subst ea_)); subst ec_; clear en_))
            have GB27 := Aside0.mk gb27
            have GG27 := Aside0.mk HG27
            clear gb27 gl27 HG27
            have HMgo27 := Aside0.mk (show (P0_ go27 ∨ w.heap.size ≤ go27) from (HO_0.out.1 _ rfl))
            (first | simp only [add_plain] at hx216_0 | skip)
            (first | simp only [add_plain] at hx216_1 | skip)
            (first | simp only [add_plain] at hx216_2 | skip)
            (first | simp only [add_plain] at hx216_3 | skip)
            (first | simp only [add_plain] at hx217_0 | skip)
            (first | simp only [add_plain] at hx217_1 | skip)
            (first | simp only [add_plain] at hx217_2 | skip)
            (first | simp only [add_plain] at hx217_3 | skip)
            obtain ⟨ce27, hcl27, hM27, hcc27, hfr27⟩ := Kd.R_elem HO_0.out z65 (x13_2 : Int) p27 q27
            obtain rfl := k65_openM hM27
            have hx27_0 : World.cell? _ ⟨go27, (x13_2 : Int).toNat * 4, none⟩ = some (.int .i64 ((rd_T65 x0_2 x13_2).f0)) := hcc27 0 _ rfl
            have hx27_1 : World.cell? _ ⟨go27, (x13_2 : Int).toNat * 4 + 1, none⟩ = some (.int .i64 ((rd_T65 x0_2 x13_2).f1.f0)) := hcc27 1 _ rfl
            have hx27_2 : World.cell? _ ⟨go27, (x13_2 : Int).toNat * 4 + 2, none⟩ = some (.int .i64 ((rd_T65 x0_2 x13_2).f1.f1)) := hcc27 2 _ rfl
            have hx27_3 : World.cell? _ ⟨go27, (x13_2 : Int).toNat * 4 + 3, none⟩ = some (.int .i64 ((rd_T65 x0_2 x13_2).f2)) := hcc27 3 _ rfl
            have hf27_0 : World.frozen? _ ⟨go27, (x13_2 : Int).toNat * 4, none⟩ = false := hfr27 0
            have hf27_1 : World.frozen? _ ⟨go27, (x13_2 : Int).toNat * 4 + 1, none⟩ = false := hfr27 1
            have hf27_2 : World.frozen? _ ⟨go27, (x13_2 : Int).toNat * 4 + 2, none⟩ = false := hfr27 2
            have hf27_3 : World.frozen? _ ⟨go27, (x13_2 : Int).toNat * 4 + 3, none⟩ = false := hfr27 3
            clear hcl27 hcc27 hfr27 hM27
            replace p27 := eq_true p27
            replace q27 := eq_true q27
            obtain ⟨ce31, hcl31, hM31, hcc31, hfr31⟩ := Kd.R_elem HO_0.out z65 (x13_2 : Int) (of_decide_eq_true (by first | (with_reducible assumption) | assumption)) (by have h_ : (x13_2 : Int) < ((x0_2.length : Int) : Int) := of_decide_eq_true (by first | (with_reducible assumption) | assumption); first | exact h_ | (have e_ := (Kd.R_reads' HO_0.out).1; omega) | simpa using h_)
            obtain rfl := k65_openM hM31
            have HP31 := (Kd.R_seg HO_0.out (x13_2 : Int) (of_decide_eq_true (by first | (with_reducible assumption) | assumption)) (by have h_ : (x13_2 : Int) < ((x0_2.length : Int) : Int) := of_decide_eq_true (by first | (with_reducible assumption) | assumption); first | exact h_ | (have e_ := (Kd.R_reads' HO_0.out).1; omega) | simpa using h_) (seg := [.int .i64 ((rd_T65 x0_2 (ji22)).f0), .int .i64 ((rd_T65 x0_2 (ji22)).f1.f0), .int .i64 ((rd_T65 x0_2 (ji22)).f1.f1), .int .i64 ((rd_T65 x0_2 (ji22)).f2)]) (j := 0) hcl31 hcc31 (show 4 ≤ 4 from by decide) (x' := (⟨(rd_T65 x0_2 (ji22)).f0, (⟨(rd_T65 x0_2 (ji22)).f1.f0, (rd_T65 x0_2 (ji22)).f1.f1⟩ : S26), (rd_T65 x0_2 (ji22)).f2⟩ : S65)) (k65_mkM _ _ _ (⟨(rd_T65 x0_2 (ji22)).f0, (⟨(rd_T65 x0_2 (ji22)).f1.f0, (rd_T65 x0_2 (ji22)).f1.f1⟩ : S26), (rd_T65 x0_2 (ji22)).f2⟩ : S65) ) (fun _ hk => hk)).1
            rw [← Ny218.out] at HP31
            have HQ31 := Aside0.mk HP31
            clear hcl31 hcc31 hfr31 hM31 HP31
            have p28 : 0 ≤ ((ji22) : Int) := of_decide_eq_true (by first | (with_reducible assumption) | assumption)
            have q28 : ((ji22) : Int) < ((x0_2.length : Int) : Int) := of_decide_eq_true (by first | (with_reducible assumption) | assumption)
            obtain ⟨ce28, hcl28, hM28, hcc28, hfr28⟩ := Kd.R_elem HQ31.out z65 ((ji22) : Int) p28 q28
            obtain rfl := k65_openM hM28
            have hx28_0 : World.cell? _ ⟨go27, ((ji22) : Int).toNat * 4, none⟩ = some (.int .i64 ((rd_T65 y218 (ji22)).f0)) := hcc28 0 _ rfl
            have hx28_1 : World.cell? _ ⟨go27, ((ji22) : Int).toNat * 4 + 1, none⟩ = some (.int .i64 ((rd_T65 y218 (ji22)).f1.f0)) := hcc28 1 _ rfl
            have hx28_2 : World.cell? _ ⟨go27, ((ji22) : Int).toNat * 4 + 2, none⟩ = some (.int .i64 ((rd_T65 y218 (ji22)).f1.f1)) := hcc28 2 _ rfl
            have hx28_3 : World.cell? _ ⟨go27, ((ji22) : Int).toNat * 4 + 3, none⟩ = some (.int .i64 ((rd_T65 y218 (ji22)).f2)) := hcc28 3 _ rfl
            have hf28_0 : World.frozen? _ ⟨go27, ((ji22) : Int).toNat * 4, none⟩ = false := hfr28 0
            have hf28_1 : World.frozen? _ ⟨go27, ((ji22) : Int).toNat * 4 + 1, none⟩ = false := hfr28 1
            have hf28_2 : World.frozen? _ ⟨go27, ((ji22) : Int).toNat * 4 + 2, none⟩ = false := hfr28 2
            have hf28_3 : World.frozen? _ ⟨go27, ((ji22) : Int).toNat * 4 + 3, none⟩ = false := hfr28 3
            clear hcl28 hcc28 hfr28 hM28
            replace p28 := eq_true p28
            replace q28 := eq_true q28
            obtain ⟨ce32, hcl32, hM32, hcc32, hfr32⟩ := Kd.R_elem HQ31.out z65 ((ji22) : Int) (of_decide_eq_true (by first | (with_reducible assumption) | assumption)) (by have h_ : ((ji22) : Int) < ((x0_2.length : Int) : Int) := of_decide_eq_true (by first | (with_reducible assumption) | assumption); first | exact h_ | (have e_ := (Kd.R_reads' HO_0.out).1; omega) | simpa using h_)
            obtain rfl := k65_openM hM32
            have HP32 := (Kd.R_seg HQ31.out ((ji22) : Int) (of_decide_eq_true (by first | (with_reducible assumption) | assumption)) (by have h_ : ((ji22) : Int) < ((x0_2.length : Int) : Int) := of_decide_eq_true (by first | (with_reducible assumption) | assumption); first | exact h_ | (have e_ := (Kd.R_reads' HO_0.out).1; omega) | simpa using h_) (seg := [.int .i64 ((rd_T65 x0_2 x13_2).f0), .int .i64 ((rd_T65 x0_2 x13_2).f1.f0), .int .i64 ((rd_T65 x0_2 x13_2).f1.f1), .int .i64 ((rd_T65 x0_2 x13_2).f2)]) (j := 0) hcl32 hcc32 (show 4 ≤ 4 from by decide) (x' := (⟨(rd_T65 x0_2 x13_2).f0, (⟨(rd_T65 x0_2 x13_2).f1.f0, (rd_T65 x0_2 x13_2).f1.f1⟩ : S26), (rd_T65 x0_2 x13_2).f2⟩ : S65)) (k65_mkM _ _ _ (⟨(rd_T65 x0_2 x13_2).f0, (⟨(rd_T65 x0_2 x13_2).f1.f0, (rd_T65 x0_2 x13_2).f1.f1⟩ : S26), (rd_T65 x0_2 x13_2).f2⟩ : S65) ) (fun _ hk => hk)).1
            rw [← Ny219.out] at HP32
            have HQ32 := Aside0.mk HP32
            clear hcl32 hcc32 hfr32 hM32 HP32
            refine start_ (n := 18) (S := fun w' => w'.cell? ⟨go27, (((ji22)).toNat * 4), none⟩ = some (.int .i64 ((rd_T65 x0_2 (ji22)).f0)) ∧ w'.cell? ⟨go27, (((ji22)).toNat * 4) + 1, none⟩ = some (.int .i64 ((rd_T65 x0_2 (ji22)).f1.f0)) ∧ w'.cell? ⟨go27, (((ji22)).toNat * 4) + 2, none⟩ = some (.int .i64 ((rd_T65 x0_2 (ji22)).f1.f1)) ∧ w'.cell? ⟨go27, (((ji22)).toNat * 4) + 3, none⟩ = some (.int .i64 ((rd_T65 x0_2 (ji22)).f2)) ∧ w'.cell? ⟨go27, ((x13_2).toNat * 4), none⟩ = some (.int .i64 ((rd_T65 x0_2 x13_2).f0)) ∧ w'.cell? ⟨go27, ((x13_2).toNat * 4) + 1, none⟩ = some (.int .i64 ((rd_T65 x0_2 x13_2).f1.f0)) ∧ w'.cell? ⟨go27, ((x13_2).toNat * 4) + 2, none⟩ = some (.int .i64 ((rd_T65 x0_2 x13_2).f1.f1)) ∧ w'.cell? ⟨go27, ((x13_2).toNat * 4) + 3, none⟩ = some (.int .i64 ((rd_T65 x0_2 x13_2).f2))) (ds := [15, 17]) #[false, false, false, false, false, false, false, false, false, false, false, false, false, false, false, false, false, false] (by kernel_rfl) rfl rfl ⟨hx216_0, hx216_1, hx216_2, hx216_3, hx217_0, hx217_1, hx217_2, hx217_3⟩ (fun hHeld => ?_); refine with_tabW api_Turn_107.tab11 api_Turn_107.bits11 (fun HT_ HW_ => ?_)
            generalize wr.drew = w29 at HO_0 HK HB GG27 HQ31 HQ32 hf27_0 hf27_1 hf27_2 hf27_3 hf28_0 hf28_1 hf28_2 hf28_3 hx216_0 hx216_1 hx216_2 hx216_3 hx217_0 hx217_1 hx217_2 hx217_3 hx27_0 hx27_1 hx27_2 hx27_3 hx28_0 hx28_1 hx28_2 hx28_3 hHeld ⊢
            have Q_ := Qs.mk (n := 18) [(0, 0, 61, 1), (0, 1, 62, 3), (0, 2, 63, 7), (0, 3, 64, 15), (0, 4, 65, 31), (0, 5, 66, 63), (0, 6, 67, 127), (0, 7, 68, 255), (0, 8, 69, 511), (0, 10, 71, 1535), (0, 11, 72, 3583), (0, 12, 73, 7679), (2, 9, 70, 8191), (2, 13, 74, 16383), (0, 14, 75, 32767)]
            iterate 15 (first | (obtain ⟨q_, Q_⟩ := Qs.p Q_; refine pureQ_ q_ (v := ?_) (a' := ?_) rfl rfl (any_of HT_.out (by kernel_rfl)) (fun _ _ _ h => h) (Or.inl ⟨by rfl, ?_⟩) ?_ ?_; rotate_left; (intro w'; go_simp; with_reducible rfl); rotate_left; (simp only [Act.put, List.setIfInBounds_toArray, List.set_cons_zero, List.set_cons_succ, i64_w, i32_w]; rfl)) | (obtain ⟨q_, Q_⟩ := Qs.t Q_; refine takeQ_ q_ (v := ?_) (a' := ?_) rfl rfl (take_ofW HT_.out HW_.out (by kernel_rfl)) (fun _ _ _ h => h) (Or.inl ⟨by rfl, ?_⟩) hHeld ?_ ?_; rotate_left; (rintro w' ⟨s0, s1, s2, s3, s4, s5, s6, s7⟩; go_simp; with_reducible rfl); rotate_left; (simp only [Act.put, List.setIfInBounds_toArray, List.set_cons_zero, List.set_cons_succ, i64_w, i32_w]; rfl)))
            clear Q_
            refine last_ (i := 15) (N := none) (dn_ 16 18) rfl rfl (one_of HT_.out (by kernel_rfl)) (by decide) (fun K hK => ?_)
            refine skip_ (w1 := ?_) (by rfl) rfl ?_ ?_
            rotate_left
            ·(try simp [go_sem, World.setCells, show k65.sz = 4 from rfl] at hx28_0); (try simp [go_sem, World.setCells, show k65.sz = 4 from rfl] at hx28_1); (try simp [go_sem, World.setCells, show k65.sz = 4 from rfl] at hx28_2); (try simp [go_sem, World.setCells, show k65.sz = 4 from rfl] at hx28_3); (try simp [go_sem, World.setCells, show k65.sz = 4 from rfl] at hf28_0); (try simp [go_sem, World.setCells, show k65.sz = 4 from rfl] at hf28_1); (try simp [go_sem, World.setCells, show k65.sz = 4 from rfl] at hf28_2); (try simp [go_sem, World.setCells, show k65.sz = 4 from rfl] at hf28_3)
             go_simp
             rfl
            refine hK.out _ _ ?_
            clear hK K
            refine pure_ (i := 16) (N := some 76) (v := ?_) (a' := ?_) (dn_ 17 18) rfl rfl (any_of HT_.out (by kernel_rfl)) (fun _ _ _ h => h) (Or.inl ⟨by rfl, ?_⟩) ?_ ?_
            rotate_left
            ·intro w'
             go_simp
             with_reducible rfl
            rotate_left; (simp only [Act.put, List.setIfInBounds_toArray, List.set_cons_zero, List.set_cons_succ, i64_w, i32_w]; rfl)
            refine last_ (i := 17) (N := none) #[true, true, true, true, true, true, true, true, true, true, true, true, true, true, true, true, true, true] rfl rfl (one_of HT_.out (by kernel_rfl)) (by decide) (fun K hK => ?_)
            refine skip_ (w1 := ?_) (by rfl) rfl ?_ ?_
            rotate_left
            ·(try simp [go_sem, World.setCells, show k65.sz = 4 from rfl] at hx28_0); (try simp [go_sem, World.setCells, show k65.sz = 4 from rfl] at hx28_1); (try simp [go_sem, World.setCells, show k65.sz = 4 from rfl] at hx28_2); (try simp [go_sem, World.setCells, show k65.sz = 4 from rfl] at hx28_3); (try simp [go_sem, World.setCells, show k65.sz = 4 from rfl] at hf28_0); (try simp [go_sem, World.setCells, show k65.sz = 4 from rfl] at hf28_1); (try simp [go_sem, World.setCells, show k65.sz = 4 from rfl] at hf28_2); (try simp [go_sem, World.setCells, show k65.sz = 4 from rfl] at hf28_3)
             go_simp
             rfl
            refine hK.out _ _ ?_
            clear hK K
            refine done_ (done_of HT_.out (by kernel_rfl)) ?_
            try go_wp2
            go_roundg k2
            case measure => have := HK1.out; have := HK2.out; omega
            case rel => exact ⟨(y219), (ji22), (by first | rfl | (simp; done) | (simp only [← hji22] <;> (first | rfl | simp)) | (simp [*]; done)), H', ⟨by have := HK1.out; have := HK2.out; omega⟩, ⟨by (with_reducible repeat (first | apply Kd.R_alloc | apply Kd.R_drewN | apply Kd.R_drew)); exact HQ32.out⟩, ⟨by repeat (first | (with_reducible first | exact HK.out | apply Kept.alloc | apply Kept.drewN | apply Kept.drew | refine Kept.setCell ?_ HMgo27.out _ | refine Kept.setCell ?_ HMgo27.out _ | refine Kept.setCell ?_ HMgo27.out _ | refine Kept.setCell ?_ HMgo27.out _ | refine Kept.setCell ?_ HMgo27.out _ | refine Kept.setCell ?_ HMgo27.out _ | refine Kept.setCell ?_ HMgo27.out _ | refine Kept.setCell ?_ HMgo27.out _) | exact HK.out)⟩, ⟨by repeat (with_reducible first | exact HB.out | apply pw_below_drewN | apply below_drew1 | refine below_set ?_ GB27.out | refine below_set ?_ GB27.out | refine below_set ?_ GB27.out | refine below_set ?_ GB27.out | refine below_set ?_ GB27.out | refine below_set ?_ GB27.out | refine below_set ?_ GB27.out | refine below_set ?_ GB27.out)⟩⟩
           ·rw [if_neg c26] at H
            exact absurd H (by simp)
          ·rw [if_neg c25] at H
           exact absurd H (by simp)
         ·rw [if_neg c24] at H
          exact absurd H (by simp)
        ·rw [if_neg c23] at H
         exact absurd H (by simp)
       ·rw [if_neg c21] at H
        have c21b0 : decide (x13_2 < (wrap64 (x10_1 - 1))) = false := decide_eq_false c21
        clear c21
        obtain rfl := Option.some.inj H
        go_wp2
        first | go_end0 | ((try simp only [Exit.inBlock, Exit.then]); refine bodyPost_ret (results_none rfl _ _ _) rfl ?_)
        exact ⟨by first | rfl | (simp [errW_none, errW_some] <;> rfl) | (simp [*, errW_none, errW_some] <;> rfl), by (with_reducible repeat (first | apply Kd.R_alloc | apply Kd.R_drewN | apply Kd.R_drew)); exact HO_0.out, by repeat (with_reducible first | exact HB.out | apply pw_below_drewN | apply below_drew1), by repeat (first | (with_reducible first | exact HK.out | apply Kept.alloc | apply Kept.drewN | apply Kept.drew) | exact HK.out)⟩
 ·rw [if_neg c6] at H
  have c6b0 : ((wrap64 (a2 - a1)) == 1) = false := beq_eq_false_iff_ne.mpr c6
  have c6b1 : ((wrap64 (a2 - a1)) != 1) = true := bne_iff_ne.mpr c6
  by_cases c33 : (wrap64 (a3 - a2)) = 1
  ·rw [if_pos c33] at H
   have c33b0 : ((wrap64 (a3 - a2)) == 1) = true := beq_iff_eq.mpr c33
   have c33b1 : ((wrap64 (a3 - a2)) != 1) = false := bne_eq_false_iff_eq.mpr c33
   clear c33
   have H' := Aside0.mk H
   clear H
   go_enter Try.func107, Try.ntmps107
   go_wp2
   go_loopg [14, 15] k (fun kq v14 v15 w' => ∃ (x14_1 : Int) (x15_1 : Int), v14 = .int .i64 x14_1 ∧ v15 = .int .i64 x15_1 ∧ Aside0 (api_Turn_107.l2 kq l0 a2 x14_1 x15_1 = some r) ∧ Aside0 (kq ≤ k) ∧ Aside0 (Kd.R k65 65 w' w0.heap.size (fun k_ => (P0_ k_ ∨ w.heap.size ≤ k_)) u9000_ l0) ∧ Aside0 (Kept w w' (fun k_ => P0_ k_)) ∧ Aside0 (Below w0.heap.size w0 w'))
   case atStart => exact ⟨(a1), (a2), (by first | rfl | (simp; done) | (simp [*]; done)), (by first | rfl | (simp; done) | (simp [*]; done)), H', ⟨Nat.le_refl _⟩, ⟨by (with_reducible repeat (first | apply Kd.R_alloc | apply Kd.R_drewN | apply Kd.R_drew)); exact HO0.out⟩, ⟨by repeat (first | (with_reducible first | exact HK.out | apply Kept.alloc | apply Kept.drewN | apply Kept.drew) | exact HK.out)⟩, ⟨by repeat (with_reducible first | exact HB.out | apply pw_below_drewN | apply below_drew1)⟩⟩
   case round =>
    clear H'
    try clear c1; try clear c2; try clear p2; try clear q2; try clear hx2; try clear c3; try clear c6; try clear c6b0; try clear c6b1; try clear p6; try clear c7; try clear c7b0; try clear c9; try clear c9b0; try clear c10; try clear c10b0; try clear c11; try clear c11b0; try clear c12; try clear c12b0; try clear c14; try clear c14b0; try clear c21; try clear c21b0; try clear p21; try clear q21; try clear hx21; try clear c23; try clear c23b0; try clear c24; try clear c24b0; try clear c25; try clear c25b0; try clear c26; try clear c26b0; try clear c27; try clear p27; try clear q27; try clear hx27; try clear hf27; try clear c28; try clear p28; try clear q28; try clear hx28; try clear hf28; try clear c31; try clear c32; try clear c33; try clear c33b0; try clear c33b1; try clear hx213_0; try clear hx213_1; try clear hx213_2; try clear hx213_3; try clear hx214_0; try clear hx214_1; try clear hx214_2; try clear hx214_3; try clear hx216_0; try clear hx216_1; try clear hx216_2; try clear hx216_3; try clear hx217_0; try clear hx217_1; try clear hx217_2; try clear hx217_3; try clear hx27_0; try clear hx27_1; try clear hx27_2; try clear hx27_3; try clear hx28_0; try clear hx28_1; try clear hx28_2; try clear hx28_3; try clear p2; try clear p213; try clear p214; try clear p216; try clear p217; try clear p27; try clear p28; try clear p6; try clear q2; try clear q213; try clear q214; try clear q216; try clear q217; try clear q27; try clear q28
    obtain ⟨x14_1, x15_1, rfl, rfl, HA, HK1, HO_0, HK, HB⟩ := hrel
    cases gk with
    | zero => exact absurd HA.out (by simp [api_Turn_107.l2])
    | succ k1 =>
     have H := HA.out
     clear HA
     simp only [api_Turn_107.l2] at H
     by_cases c34 : x14_1 < x15_1
     ·rw [if_pos c34] at H
      have c34b0 : decide (x14_1 < x15_1) = true := decide_eq_true c34
      clear c34
      by_cases c35 : 0 ≤ a2
      ·rw [if_pos c35] at H
       have c35b0 : decide (0 ≤ a2) = true := decide_eq_true c35
       clear c35
       by_cases c36 : a2 < (l0.length : Int)
       ·rw [if_pos c36] at H
        have c36b0 : decide (a2 < (l0.length : Int)) = true := decide_eq_true c36
        clear c36
        obtain ⟨ji37, hji37⟩ : ∃ j_ : Int, (wrap64 ((IntKind.u64.wrap (wrap64 (x14_1 + x15_1))) / 2)) = j_ := ⟨_, rfl⟩
        replace H : (if 0 ≤ (ji37) then (if (ji37) < (l0.length : Int) then ((due_Order_1.f k1 ((rd_T65 l0 a2).f0) ((rd_T65 l0 a2).f1.f0) ((rd_T65 l0 a2).f1.f1) ((rd_T65 l0 a2).f2) ((rd_T65 l0 (ji37)).f0) ((rd_T65 l0 (ji37)).f1.f0) ((rd_T65 l0 (ji37)).f1.f1) ((rd_T65 l0 (ji37)).f2)).bind fun t222 => (if t222 < 0 then (api_Turn_107.l2 k1 l0 a2 x14_1 ji37) else (api_Turn_107.l2 k1 l0 a2 (wrap64 ((ji37) + 1)) x15_1))) else (none)) else (none)) = some r := by first | (rw [hji37] at H; exact H) | (simp only [hji37] at H ⊢; exact H)
        have hji37w : (IntKind.i64.wrap ((IntKind.u64.wrap (wrap64 (x14_1 + x15_1))) / 2)) = ji37 := (i64_w _).trans hji37
        by_cases c38 : 0 ≤ (ji37)
        ·rw [if_pos c38] at H
         have c38b0 : decide (0 ≤ (ji37)) = true := decide_eq_true c38
         clear c38
         by_cases c39 : (ji37) < (l0.length : Int)
         ·rw [if_pos c39] at H
          have c39b0 : decide ((ji37) < (l0.length : Int)) = true := decide_eq_true c39
          clear c39
          replace H := Option.bind_eq_some_iff.mp H
          obtain ⟨t222, A400, H⟩ := H
          try dsimp only at H
          have A40 := Aside0.mk A400
          clear A400
          by_cases c41 : t222 < 0
          ·rw [if_pos c41] at H
           have c41b0 : decide (t222 < 0) = true := decide_eq_true c41
           clear c41
           have H' := Aside0.mk H
           clear H
           try go_wp2
           replace HO_0 := Aside0.mk (Kd.R_drew HO_0.out)
           replace HK := Aside0.mk (Kept.drew HK.out)
           replace HB := Aside0.mk (below_drew1 HB.out)
           obtain ⟨Ao43, co43, eo43⟩ := Kd.R_slice HO_0.out
           (first | subst eo43 | (injection eo43 with f1_ f2_ f3_; have f4_ := f1_.symm; have f5_ := f3_.symm; clear f1_ f2_ f3_; subst f4_; subst f5_))
           have p220 : 0 ≤ (a2 : Int) := of_decide_eq_true (by first | (with_reducible assumption) | assumption)
           have q220 : a2 < (l0.length : Int) := of_decide_eq_true (by first | (with_reducible assumption) | assumption)
           obtain ⟨ad220, e220, hx220_0, hx220_1, hx220_2, hx220_3⟩ := at_T65 (Kd.R_reads' HO_0.out).2.2 a2 p220 q220
           cases e220
           replace p220 := eq_true p220
           replace q220 := eq_true q220
           have p221 : 0 ≤ ((ji37) : Int) := of_decide_eq_true (by first | (with_reducible assumption) | assumption)
           have q221 : (ji37) < (l0.length : Int) := of_decide_eq_true (by first | (with_reducible assumption) | assumption)
           obtain ⟨ad221, e221, hx221_0, hx221_1, hx221_2, hx221_3⟩ := at_T65 (Kd.R_reads' HO_0.out).2.2 (ji37) p221 q221
           obtain rfl : ad220 = ad221 := (by injection e221)
           replace p221 := eq_true p221
           replace q221 := eq_true q221
           refine start_ (n := 12) (S := fun w' => w'.cell? (ad220.add ((a2).toNat * 4)) = some (.int .i64 ((rd_T65 l0 a2).f0)) ∧ w'.cell? ⟨(ad220.add ((a2).toNat * 4)).block, (ad220.add ((a2).toNat * 4)).off + 1, none⟩ = some (.int .i64 ((rd_T65 l0 a2).f1.f0)) ∧ w'.cell? ⟨(ad220.add ((a2).toNat * 4)).block, (ad220.add ((a2).toNat * 4)).off + 2, none⟩ = some (.int .i64 ((rd_T65 l0 a2).f1.f1)) ∧ w'.cell? ⟨(ad220.add ((a2).toNat * 4)).block, (ad220.add ((a2).toNat * 4)).off + 3, none⟩ = some (.int .i64 ((rd_T65 l0 a2).f2)) ∧ w'.cell? (ad220.add (((ji37)).toNat * 4)) = some (.int .i64 ((rd_T65 l0 (ji37)).f0)) ∧ w'.cell? ⟨(ad220.add (((ji37)).toNat * 4)).block, (ad220.add (((ji37)).toNat * 4)).off + 1, none⟩ = some (.int .i64 ((rd_T65 l0 (ji37)).f1.f0)) ∧ w'.cell? ⟨(ad220.add (((ji37)).toNat * 4)).block, (ad220.add (((ji37)).toNat * 4)).off + 2, none⟩ = some (.int .i64 ((rd_T65 l0 (ji37)).f1.f1)) ∧ w'.cell? ⟨(ad220.add (((ji37)).toNat * 4)).block, (ad220.add (((ji37)).toNat * 4)).off + 3, none⟩ = some (.int .i64 ((rd_T65 l0 (ji37)).f2))) (ds := []) #[false, false, false, false, false, false, false, false, false, false, false, false] (by kernel_rfl) rfl rfl ⟨hx220_0, hx220_1, hx220_2, hx220_3, hx221_0, hx221_1, hx221_2, hx221_3⟩ (fun hHeld => ?_); refine with_tabW api_Turn_107.tab17 api_Turn_107.bits17 (fun HT_ HW_ => ?_)
           generalize wr.drew = w42 at HO_0 HK HB hx220_0 hx220_1 hx220_2 hx220_3 hx221_0 hx221_1 hx221_2 hx221_3 hHeld ⊢
           have Q_ := Qs.mk (n := 12) [(0, 0, 92, 1), (0, 1, 93, 3), (0, 2, 94, 7), (0, 3, 95, 15), (0, 5, 97, 47), (0, 6, 98, 111), (0, 7, 99, 239), (2, 4, 96, 255), (2, 8, 100, 511)]
           iterate 9 (first | (obtain ⟨q_, Q_⟩ := Qs.p Q_; refine pureQ_ q_ (v := ?_) (a' := ?_) rfl rfl (any_of HT_.out (by kernel_rfl)) (fun _ _ _ h => h) (Or.inl ⟨by rfl, ?_⟩) ?_ ?_; rotate_left; (intro w'; go_simp; with_reducible rfl); rotate_left; (simp only [Act.put, List.setIfInBounds_toArray, List.set_cons_zero, List.set_cons_succ, i64_w, i32_w]; rfl)) | (obtain ⟨q_, Q_⟩ := Qs.t Q_; refine takeQ_ q_ (v := ?_) (a' := ?_) rfl rfl (take_ofW HT_.out HW_.out (by kernel_rfl)) (fun _ _ _ h => h) (Or.inl ⟨by rfl, ?_⟩) hHeld ?_ ?_; rotate_left; (rintro w' ⟨s0, s1, s2, s3, s4, s5, s6, s7⟩; go_simp; with_reducible rfl); rotate_left; (simp only [Act.put, List.setIfInBounds_toArray, List.set_cons_zero, List.set_cons_succ, i64_w, i32_w]; rfl)))
           clear Q_
           refine one_ (i := 9) (N := some 101) (dn_ 10 12) rfl rfl (one_of HT_.out (by kernel_rfl)) (by decide) (fun K hK => ?_)
           refine goesV_ Try.func79 (by kernel_rfl) rfl #[.agg #[.int .i64 ((rd_T65 l0 a2).f0), .int .i64 ((rd_T65 l0 a2).f1.f0), .int .i64 ((rd_T65 l0 a2).f1.f1), .int .i64 ((rd_T65 l0 a2).f2)], .agg #[.int .i64 ((rd_T65 l0 (ji37)).f0), .int .i64 ((rd_T65 l0 (ji37)).f1.f0), .int .i64 ((rd_T65 l0 (ji37)).f1.f1), .int .i64 ((rd_T65 l0 (ji37)).f2)]] (by rfl) rfl rfl (by (try simp only [List.map_toArray, List.map_cons, List.map_nil]); first | done | (simp only [hji37]; rfl) | rfl | (simp only [List.length_drop, List.length_take]; rfl)) (by rfl) ?_
           with_reducible refine (due_Order_1.calls k1 ((rd_T65 l0 a2).f0) ((rd_T65 l0 a2).f1.f0) ((rd_T65 l0 a2).f1.f1) ((rd_T65 l0 a2).f2) ((rd_T65 l0 (ji37)).f0) ((rd_T65 l0 (ji37)).f1.f0) ((rd_T65 l0 (ji37)).f1.f1) ((rd_T65 l0 (ji37)).f2) t222 _ A40.out).mono ?_
           rintro e w44 ⟨rfl, hb⟩
           have HS0_ := (hb.cell (World.block_lt_of_cell? _ _ (hHeld.1))).trans (hHeld.1)
           have HS1_ := (hb.cell (World.block_lt_of_cell? _ _ (hHeld.2.1))).trans (hHeld.2.1)
           have HS2_ := (hb.cell (World.block_lt_of_cell? _ _ (hHeld.2.2.1))).trans (hHeld.2.2.1)
           have HS3_ := (hb.cell (World.block_lt_of_cell? _ _ (hHeld.2.2.2.1))).trans (hHeld.2.2.2.1)
           have HS4_ := (hb.cell (World.block_lt_of_cell? _ _ (hHeld.2.2.2.2.1))).trans (hHeld.2.2.2.2.1)
           have HS5_ := (hb.cell (World.block_lt_of_cell? _ _ (hHeld.2.2.2.2.2.1))).trans (hHeld.2.2.2.2.2.1)
           have HS6_ := (hb.cell (World.block_lt_of_cell? _ _ (hHeld.2.2.2.2.2.2.1))).trans (hHeld.2.2.2.2.2.2.1)
           have HS7_ := (hb.cell (World.block_lt_of_cell? _ _ (hHeld.2.2.2.2.2.2.2))).trans (hHeld.2.2.2.2.2.2.2)
           refine ⟨_, rfl, ?_⟩
           replace HO_0 := rb_ HO_0 hb
           replace HK := Aside0.mk (Kept.below (S := (fun k_ => P0_ k_)) (by repeat (first | (with_reducible first | exact HK.out | apply Kept.alloc | apply Kept.drewN | apply Kept.drew) | exact HK.out)) hb)
           replace HB := Aside0.mk (below_step HB.out hb)
           (try clear hb)
           (try clear hb2)
           (try clear hk)
           (try clear hi)
           refine hK.out _ _ ⟨HS0_, HS1_, HS2_, HS3_, HS4_, HS5_, HS6_, HS7_⟩ (fun hHeld => ?_)
           clear hK K
           refine norm_ (a' := ?_) ?_ ?_
           rotate_left
           ·show Act.put _ (some 101) _ = _
            simp only [Act.put, List.setIfInBounds_toArray, List.set_cons_zero, List.set_cons_succ, i64_w, i32_w]
            rfl
           refine pure_ (i := 10) (N := some 102) (v := ?_) (a' := ?_) (dn_ 11 12) rfl rfl (any_of HT_.out (by kernel_rfl)) (fun _ _ _ h => h) (Or.inl ⟨by rfl, ?_⟩) ?_ ?_
           rotate_left
           ·intro w'
            go_simp
            with_reducible rfl
           rotate_left; (simp only [Act.put, List.setIfInBounds_toArray, List.set_cons_zero, List.set_cons_succ, i64_w, i32_w]; rfl)
           refine pure_ (i := 11) (N := some 103) (v := ?_) (a' := ?_) #[true, true, true, true, true, true, true, true, true, true, true, true] rfl rfl (any_of HT_.out (by kernel_rfl)) (fun _ _ _ h => h) (Or.inl ⟨by rfl, ?_⟩) ?_ ?_
           rotate_left
           ·intro w'
            go_simp
            with_reducible rfl
           rotate_left; (simp only [Act.put, List.setIfInBounds_toArray, List.set_cons_zero, List.set_cons_succ, i64_w, i32_w]; rfl)
           refine done_ (done_of HT_.out (by kernel_rfl)) ?_
           try go_wp2
           go_roundg k1
           case measure => have := HK1.out; omega
           case rel => exact ⟨(x14_1), (ji37), (by first | rfl | (simp; done) | (simp [*]; done)), (by first | rfl | (simp; done) | (simp only [← hji37] <;> (first | rfl | simp)) | (simp [*]; done)), H', ⟨by have := HK1.out; omega⟩, ⟨by (with_reducible repeat (first | apply Kd.R_alloc | apply Kd.R_drewN | apply Kd.R_drew)); exact HO_0.out⟩, ⟨by repeat (first | (with_reducible first | exact HK.out | apply Kept.alloc | apply Kept.drewN | apply Kept.drew) | exact HK.out)⟩, ⟨by repeat (with_reducible first | exact HB.out | apply pw_below_drewN | apply below_drew1)⟩⟩
          ·rw [if_neg c41] at H
           have c41b0 : decide (t222 < 0) = false := decide_eq_false c41
           clear c41
           have H' := Aside0.mk H
           clear H
           try go_wp2
           replace HO_0 := Aside0.mk (Kd.R_drew HO_0.out)
           replace HK := Aside0.mk (Kept.drew HK.out)
           replace HB := Aside0.mk (below_drew1 HB.out)
           obtain ⟨Ao46, co46, eo46⟩ := Kd.R_slice HO_0.out
           (first | subst eo46 | (injection eo46 with f1_ f2_ f3_; have f4_ := f1_.symm; have f5_ := f3_.symm; clear f1_ f2_ f3_; subst f4_; subst f5_))
           have p220 : 0 ≤ (a2 : Int) := of_decide_eq_true (by first | (with_reducible assumption) | assumption)
           have q220 : a2 < (l0.length : Int) := of_decide_eq_true (by first | (with_reducible assumption) | assumption)
           obtain ⟨ad220, e220, hx220_0, hx220_1, hx220_2, hx220_3⟩ := at_T65 (Kd.R_reads' HO_0.out).2.2 a2 p220 q220
           cases e220
           replace p220 := eq_true p220
           replace q220 := eq_true q220
           have p221 : 0 ≤ ((ji37) : Int) := of_decide_eq_true (by first | (with_reducible assumption) | assumption)
           have q221 : (ji37) < (l0.length : Int) := of_decide_eq_true (by first | (with_reducible assumption) | assumption)
           obtain ⟨ad221, e221, hx221_0, hx221_1, hx221_2, hx221_3⟩ := at_T65 (Kd.R_reads' HO_0.out).2.2 (ji37) p221 q221
           obtain rfl : ad220 = ad221 := (by injection e221)
           replace p221 := eq_true p221
           replace q221 := eq_true q221
           refine start_ (n := 12) (S := fun w' => w'.cell? (ad220.add ((a2).toNat * 4)) = some (.int .i64 ((rd_T65 l0 a2).f0)) ∧ w'.cell? ⟨(ad220.add ((a2).toNat * 4)).block, (ad220.add ((a2).toNat * 4)).off + 1, none⟩ = some (.int .i64 ((rd_T65 l0 a2).f1.f0)) ∧ w'.cell? ⟨(ad220.add ((a2).toNat * 4)).block, (ad220.add ((a2).toNat * 4)).off + 2, none⟩ = some (.int .i64 ((rd_T65 l0 a2).f1.f1)) ∧ w'.cell? ⟨(ad220.add ((a2).toNat * 4)).block, (ad220.add ((a2).toNat * 4)).off + 3, none⟩ = some (.int .i64 ((rd_T65 l0 a2).f2)) ∧ w'.cell? (ad220.add (((ji37)).toNat * 4)) = some (.int .i64 ((rd_T65 l0 (ji37)).f0)) ∧ w'.cell? ⟨(ad220.add (((ji37)).toNat * 4)).block, (ad220.add (((ji37)).toNat * 4)).off + 1, none⟩ = some (.int .i64 ((rd_T65 l0 (ji37)).f1.f0)) ∧ w'.cell? ⟨(ad220.add (((ji37)).toNat * 4)).block, (ad220.add (((ji37)).toNat * 4)).off + 2, none⟩ = some (.int .i64 ((rd_T65 l0 (ji37)).f1.f1)) ∧ w'.cell? ⟨(ad220.add (((ji37)).toNat * 4)).block, (ad220.add (((ji37)).toNat * 4)).off + 3, none⟩ = some (.int .i64 ((rd_T65 l0 (ji37)).f2))) (ds := []) #[false, false, false, false, false, false, false, false, false, false, false, false] (by kernel_rfl) rfl rfl ⟨hx220_0, hx220_1, hx220_2, hx220_3, hx221_0, hx221_1, hx221_2, hx221_3⟩ (fun hHeld => ?_); refine with_tabW api_Turn_107.tab17 api_Turn_107.bits17 (fun HT_ HW_ => ?_)
           generalize wr.drew = w45 at HO_0 HK HB hx220_0 hx220_1 hx220_2 hx220_3 hx221_0 hx221_1 hx221_2 hx221_3 hHeld ⊢
           have Q_ := Qs.mk (n := 12) [(0, 0, 92, 1), (0, 1, 93, 3), (0, 2, 94, 7), (0, 3, 95, 15), (0, 5, 97, 47), (0, 6, 98, 111), (0, 7, 99, 239), (2, 4, 96, 255), (2, 8, 100, 511)]
           iterate 9 (first | (obtain ⟨q_, Q_⟩ := Qs.p Q_; refine pureQ_ q_ (v := ?_) (a' := ?_) rfl rfl (any_of HT_.out (by kernel_rfl)) (fun _ _ _ h => h) (Or.inl ⟨by rfl, ?_⟩) ?_ ?_; rotate_left; (intro w'; go_simp; with_reducible rfl); rotate_left; (simp only [Act.put, List.setIfInBounds_toArray, List.set_cons_zero, List.set_cons_succ, i64_w, i32_w]; rfl)) | (obtain ⟨q_, Q_⟩ := Qs.t Q_; refine takeQ_ q_ (v := ?_) (a' := ?_) rfl rfl (take_ofW HT_.out HW_.out (by kernel_rfl)) (fun _ _ _ h => h) (Or.inl ⟨by rfl, ?_⟩) hHeld ?_ ?_; rotate_left; (rintro w' ⟨s0, s1, s2, s3, s4, s5, s6, s7⟩; go_simp; with_reducible rfl); rotate_left; (simp only [Act.put, List.setIfInBounds_toArray, List.set_cons_zero, List.set_cons_succ, i64_w, i32_w]; rfl)))
           clear Q_
           refine one_ (i := 9) (N := some 101) (dn_ 10 12) rfl rfl (one_of HT_.out (by kernel_rfl)) (by decide) (fun K hK => ?_)
           refine goesV_ Try.func79 (by kernel_rfl) rfl #[.agg #[.int .i64 ((rd_T65 l0 a2).f0), .int .i64 ((rd_T65 l0 a2).f1.f0), .int .i64 ((rd_T65 l0 a2).f1.f1), .int .i64 ((rd_T65 l0 a2).f2)], .agg #[.int .i64 ((rd_T65 l0 (ji37)).f0), .int .i64 ((rd_T65 l0 (ji37)).f1.f0), .int .i64 ((rd_T65 l0 (ji37)).f1.f1), .int .i64 ((rd_T65 l0 (ji37)).f2)]] (by rfl) rfl rfl (by (try simp only [List.map_toArray, List.map_cons, List.map_nil]); first | done | (simp only [hji37]; rfl) | rfl | (simp only [List.length_drop, List.length_take]; rfl)) (by rfl) ?_
           with_reducible refine (due_Order_1.calls k1 ((rd_T65 l0 a2).f0) ((rd_T65 l0 a2).f1.f0) ((rd_T65 l0 a2).f1.f1) ((rd_T65 l0 a2).f2) ((rd_T65 l0 (ji37)).f0) ((rd_T65 l0 (ji37)).f1.f0) ((rd_T65 l0 (ji37)).f1.f1) ((rd_T65 l0 (ji37)).f2) t222 _ A40.out).mono ?_
           rintro e w47 ⟨rfl, hb⟩
           have HS0_ := (hb.cell (World.block_lt_of_cell? _ _ (hHeld.1))).trans (hHeld.1)
           have HS1_ := (hb.cell (World.block_lt_of_cell? _ _ (hHeld.2.1))).trans (hHeld.2.1)
           have HS2_ := (hb.cell (World.block_lt_of_cell? _ _ (hHeld.2.2.1))).trans (hHeld.2.2.1)
           have HS3_ := (hb.cell (World.block_lt_of_cell? _ _ (hHeld.2.2.2.1))).trans (hHeld.2.2.2.1)
           have HS4_ := (hb.cell (World.block_lt_of_cell? _ _ (hHeld.2.2.2.2.1))).trans (hHeld.2.2.2.2.1)
           have HS5_ := (hb.cell (World.block_lt_of_cell? _ _ (hHeld.2.2.2.2.2.1))).trans (hHeld.2.2.2.2.2.1)
           have HS6_ := (hb.cell (World.block_lt_of_cell? _ _ (hHeld.2.2.2.2.2.2.1))).trans (hHeld.2.2.2.2.2.2.1)
           have HS7_ := (hb.cell (World.block_lt_of_cell? _ _ (hHeld.2.2.2.2.2.2.2))).trans (hHeld.2.2.2.2.2.2.2)
           refine ⟨_, rfl, ?_⟩
           replace HO_0 := rb_ HO_0 hb
           replace HK := Aside0.mk (Kept.below (S := (fun k_ => P0_ k_)) (by repeat (first | (with_reducible first | exact HK.out | apply Kept.alloc | apply Kept.drewN | apply Kept.drew) | exact HK.out)) hb)
           replace HB := Aside0.mk (below_step HB.out hb)
           (try clear hb)
           (try clear hb2)
           (try clear hk)
           (try clear hi)
           refine hK.out _ _ ⟨HS0_, HS1_, HS2_, HS3_, HS4_, HS5_, HS6_, HS7_⟩ (fun hHeld => ?_)
           clear hK K
           refine norm_ (a' := ?_) ?_ ?_
           rotate_left
           ·show Act.put _ (some 101) _ = _
            simp only [Act.put, List.setIfInBounds_toArray, List.set_cons_zero, List.set_cons_succ, i64_w, i32_w]
            rfl
           refine pure_ (i := 10) (N := some 102) (v := ?_) (a' := ?_) (dn_ 11 12) rfl rfl (any_of HT_.out (by kernel_rfl)) (fun _ _ _ h => h) (Or.inl ⟨by rfl, ?_⟩) ?_ ?_
           rotate_left
           ·intro w'
            go_simp
            with_reducible rfl
           rotate_left; (simp only [Act.put, List.setIfInBounds_toArray, List.set_cons_zero, List.set_cons_succ, i64_w, i32_w]; rfl)
           refine pure_ (i := 11) (N := some 103) (v := ?_) (a' := ?_) #[true, true, true, true, true, true, true, true, true, true, true, true] rfl rfl (any_of HT_.out (by kernel_rfl)) (fun _ _ _ h => h) (Or.inl ⟨by rfl, ?_⟩) ?_ ?_
           rotate_left
           ·intro w'
            go_simp
            with_reducible rfl
           rotate_left; (simp only [Act.put, List.setIfInBounds_toArray, List.set_cons_zero, List.set_cons_succ, i64_w, i32_w]; rfl)
           refine done_ (done_of HT_.out (by kernel_rfl)) ?_
           try go_wp2
           go_roundg k1
           case measure => have := HK1.out; omega
           case rel => exact ⟨(wrap64 ((ji37) + 1)), (x15_1), (by first | rfl | (simp; done) | (simp only [← hji37] <;> (first | rfl | simp)) | (simp [*]; done)), (by first | rfl | (simp; done) | (simp [*]; done)), H', ⟨by have := HK1.out; omega⟩, ⟨by (with_reducible repeat (first | apply Kd.R_alloc | apply Kd.R_drewN | apply Kd.R_drew)); exact HO_0.out⟩, ⟨by repeat (first | (with_reducible first | exact HK.out | apply Kept.alloc | apply Kept.drewN | apply Kept.drew) | exact HK.out)⟩, ⟨by repeat (with_reducible first | exact HB.out | apply pw_below_drewN | apply below_drew1)⟩⟩
         ·rw [if_neg c39] at H
          exact absurd H (by simp)
        ·rw [if_neg c38] at H
         exact absurd H (by simp)
       ·rw [if_neg c36] at H
        exact absurd H (by simp)
      ·rw [if_neg c35] at H
       exact absurd H (by simp)
     ·rw [if_neg c34] at H
      have c34b0 : decide (x14_1 < x15_1) = false := decide_eq_false c34
      clear c34
      have H' := Aside0.mk H
      clear H
      go_wp2
      go_loopg [17] k1 (fun kq v17 w' => ∃ (x0_2 : List (S65)) (x17_2 : Int), v17 = .int .i64 x17_2 ∧ Aside0 (api_Turn_107.l3 kq x0_2 x14_1 x17_2 = some r) ∧ Aside0 (kq ≤ k1) ∧ Aside0 (Kd.R k65 65 w' w0.heap.size (fun k_ => (P0_ k_ ∨ w.heap.size ≤ k_)) u9000_ x0_2) ∧ Aside0 (Kept w w' (fun k_ => P0_ k_)) ∧ Aside0 (Below w0.heap.size w0 w'))
      case atStart => exact ⟨(l0), (a2), (by first | rfl | (simp; done) | (simp [*]; done)), H', ⟨Nat.le_refl _⟩, ⟨by (with_reducible repeat (first | apply Kd.R_alloc | apply Kd.R_drewN | apply Kd.R_drew)); exact HO_0.out⟩, ⟨by repeat (first | (with_reducible first | exact HK.out | apply Kept.alloc | apply Kept.drewN | apply Kept.drew) | exact HK.out)⟩, ⟨by repeat (with_reducible first | exact HB.out | apply pw_below_drewN | apply below_drew1)⟩⟩
      case round =>
       clear H'
       try clear c1; try clear c2; try clear p2; try clear q2; try clear hx2; try clear c3; try clear c4; try clear c6; try clear c6b0; try clear c6b1; try clear p6; try clear c7; try clear c7b0; try clear c9; try clear c9b0; try clear c10; try clear c10b0; try clear c11; try clear c11b0; try clear c12; try clear c12b0; try clear c14; try clear c14b0; try clear c21; try clear c21b0; try clear p21; try clear q21; try clear hx21; try clear p22; try clear q22; try clear hx22; try clear c23; try clear c23b0; try clear c24; try clear c24b0; try clear c25; try clear c25b0; try clear c26; try clear c26b0; try clear c27; try clear p27; try clear q27; try clear hx27; try clear hf27; try clear c28; try clear p28; try clear q28; try clear hx28; try clear hf28; try clear c31; try clear c32; try clear c33; try clear c33b0; try clear c33b1; try clear c34; try clear c34b0; try clear c35; try clear c35b0; try clear c36; try clear c36b0; try clear c38; try clear c38b0; try clear c39; try clear c39b0; try clear c41; try clear c41b0; try clear hx213_0; try clear hx213_1; try clear hx213_2; try clear hx213_3; try clear hx214_0; try clear hx214_1; try clear hx214_2; try clear hx214_3; try clear hx216_0; try clear hx216_1; try clear hx216_2; try clear hx216_3; try clear hx217_0; try clear hx217_1; try clear hx217_2; try clear hx217_3; try clear hx220_0; try clear hx220_1; try clear hx220_2; try clear hx220_3; try clear hx221_0; try clear hx221_1; try clear hx221_2; try clear hx221_3; try clear hx27_0; try clear hx27_1; try clear hx27_2; try clear hx27_3; try clear hx28_0; try clear hx28_1; try clear hx28_2; try clear hx28_3; try clear p2; try clear p21; try clear p213; try clear p214; try clear p216; try clear p217; try clear p220; try clear p221; try clear p27; try clear p28; try clear p6; try clear q2; try clear q21; try clear q213; try clear q214; try clear q216; try clear q217; try clear q220; try clear q221; try clear q27; try clear q28
       obtain ⟨x0_2, x17_2, rfl, HA, HK2, HO_0, HK, HB⟩ := hrel
       cases gk with
       | zero => exact absurd HA.out (by simp [api_Turn_107.l3])
       | succ k2 =>
        have H := HA.out
        clear HA
        simp only [api_Turn_107.l3] at H
        by_cases c48 : x17_2 > x14_1
        ·rw [if_pos c48] at H
         have c48b0 : decide (x14_1 < x17_2) = true := decide_eq_true c48
         clear c48
         obtain ⟨ji49, hji49⟩ : ∃ j_ : Int, (wrap64 (x17_2 - 1)) = j_ := ⟨_, rfl⟩
         replace H : (if 0 ≤ (ji49) then (if (ji49) < (x0_2.length : Int) then (if 0 ≤ x17_2 then (if x17_2 < (x0_2.length : Int) then (api_Turn_107.l3 k2 ((x0_2.set (x17_2 : Int).toNat (⟨(rd_T65 x0_2 (ji49)).f0, (⟨(rd_T65 x0_2 (ji49)).f1.f0, (rd_T65 x0_2 (ji49)).f1.f1⟩ : S26), (rd_T65 x0_2 (ji49)).f2⟩ : S65)).set ((ji49) : Int).toNat (⟨(rd_T65 x0_2 x17_2).f0, (⟨(rd_T65 x0_2 x17_2).f1.f0, (rd_T65 x0_2 x17_2).f1.f1⟩ : S26), (rd_T65 x0_2 x17_2).f2⟩ : S65)) x14_1 ji49) else (none)) else (none)) else (none)) else (none)) = some r := by first | (rw [hji49] at H; exact H) | (simp only [hji49] at H ⊢; exact H)
         have hji49w : (IntKind.i64.wrap (x17_2 - 1)) = ji49 := (i64_w _).trans hji49
         by_cases c50 : 0 ≤ (ji49)
         ·rw [if_pos c50] at H
          have c50b0 : decide (0 ≤ (ji49)) = true := decide_eq_true c50
          clear c50
          by_cases c51 : (ji49) < (x0_2.length : Int)
          ·rw [if_pos c51] at H
           have c51b0 : decide ((ji49) < (x0_2.length : Int)) = true := decide_eq_true c51
           clear c51
           by_cases c52 : 0 ≤ x17_2
           ·rw [if_pos c52] at H
            have c52b0 : decide (0 ≤ x17_2) = true := decide_eq_true c52
            clear c52
            by_cases c53 : x17_2 < (x0_2.length : Int)
            ·rw [if_pos c53] at H
             have c53b0 : decide (x17_2 < (x0_2.length : Int)) = true := decide_eq_true c53
             clear c53
             obtain ⟨y225, hy225⟩ : ∃ y_ : List (S65), y_ = (x0_2.set (x17_2 : Int).toNat (⟨(rd_T65 x0_2 (ji49)).f0, (⟨(rd_T65 x0_2 (ji49)).f1.f0, (rd_T65 x0_2 (ji49)).f1.f1⟩ : S26), (rd_T65 x0_2 (ji49)).f2⟩ : S65)) := ⟨_, rfl⟩
             replace H : (api_Turn_107.l3 k2 (y225.set ((ji49) : Int).toNat (⟨(rd_T65 x0_2 x17_2).f0, (⟨(rd_T65 x0_2 x17_2).f1.f0, (rd_T65 x0_2 x17_2).f1.f1⟩ : S26), (rd_T65 x0_2 x17_2).f2⟩ : S65)) x14_1 ji49) = some r := by first | (rw [hy225]; with_reducible exact H) | (have H2_ := (Option.bind_some _ _).symm.trans H; rw [hy225]; with_reducible exact H2_) | (have H2_ := (Option.bind_some _ _).symm.trans H; with_reducible exact H2_) | with_reducible exact H | (rw [hy225]; exact H) | exact H
             have Ny225 := Aside0.mk hy225
             clear hy225
             obtain ⟨y226, hy226⟩ : ∃ y_ : List (S65), y_ = (y225.set ((ji49) : Int).toNat (⟨(rd_T65 x0_2 x17_2).f0, (⟨(rd_T65 x0_2 x17_2).f1.f0, (rd_T65 x0_2 x17_2).f1.f1⟩ : S26), (rd_T65 x0_2 x17_2).f2⟩ : S65)) := ⟨_, rfl⟩
             replace H : (api_Turn_107.l3 k2 y226 x14_1 ji49) = some r := by first | (rw [hy226]; with_reducible exact H) | (have H2_ := (Option.bind_some _ _).symm.trans H; rw [hy226]; with_reducible exact H2_) | (have H2_ := (Option.bind_some _ _).symm.trans H; with_reducible exact H2_) | with_reducible exact H | (rw [hy226]; exact H) | exact H
             have Ny226 := Aside0.mk hy226
             clear hy226
             have H' := Aside0.mk H
             clear H
             try go_wp2
             replace HO_0 := Aside0.mk (Kd.R_drew HO_0.out)
             replace HK := Aside0.mk (Kept.drew HK.out)
             replace HB := Aside0.mk (below_drew1 HB.out)
             obtain ⟨Ao57, co57, eo57⟩ := Kd.R_slice HO_0.out
             (first | subst eo57 | (injection eo57 with f1_ f2_ f3_; have f4_ := f1_.symm; have f5_ := f3_.symm; clear f1_ f2_ f3_; subst f4_; subst f5_))
             have p223 : 0 ≤ ((ji49) : Int) := of_decide_eq_true (by first | (with_reducible assumption) | assumption)
             have q223 : (ji49) < (x0_2.length : Int) := of_decide_eq_true (by first | (with_reducible assumption) | assumption)
             obtain ⟨ad223, e223, hx223_0, hx223_1, hx223_2, hx223_3⟩ := at_T65 (Kd.R_reads' HO_0.out).2.2 (ji49) p223 q223
             cases e223
             replace p223 := eq_true p223
             replace q223 := eq_true q223
             have p224 : 0 ≤ (x17_2 : Int) := of_decide_eq_true (by first | (with_reducible assumption) | assumption)
             have q224 : x17_2 < (x0_2.length : Int) := of_decide_eq_true (by first | (with_reducible assumption) | assumption)
             obtain ⟨ad224, e224, hx224_0, hx224_1, hx224_2, hx224_3⟩ := at_T65 (Kd.R_reads' HO_0.out).2.2 x17_2 p224 q224
             obtain rfl : ad223 = ad224 := (by injection e224)
             replace p224 := eq_true p224
             replace q224 := eq_true q224
             have p54 : 0 ≤ (x17_2 : Int) := of_decide_eq_true (by first | (with_reducible assumption) | assumption)
             have q54 : (x17_2 : Int) < ((x0_2.length : Int) : Int) := of_decide_eq_true (by first | (with_reducible assumption) | assumption)
             obtain ⟨go54, co54, eo54, gb54, gl54, cl54, HG54⟩ := Kd.R_form HO_0.out (by omega)
             (first | cases eo54 | (injection eo54 with ea_ en_ ec_; (first | subst ea_ | (injection ea_ with ea_; subst ea_)); subst ec_; clear en_))
             have GB54 := Aside0.mk gb54
             have GG54 := Aside0.mk HG54
             clear gb54 gl54 HG54
             have HMgo54 := Aside0.mk (show (P0_ go54 ∨ w.heap.size ≤ go54) from (HO_0.out.1 _ rfl))
             (first | simp only [add_plain] at hx223_0 | skip)
             (first | simp only [add_plain] at hx223_1 | skip)
             (first | simp only [add_plain] at hx223_2 | skip)
             (first | simp only [add_plain] at hx223_3 | skip)
             (first | simp only [add_plain] at hx224_0 | skip)
             (first | simp only [add_plain] at hx224_1 | skip)
             (first | simp only [add_plain] at hx224_2 | skip)
             (first | simp only [add_plain] at hx224_3 | skip)
             obtain ⟨ce54, hcl54, hM54, hcc54, hfr54⟩ := Kd.R_elem HO_0.out z65 (x17_2 : Int) p54 q54
             obtain rfl := k65_openM hM54
             have hx54_0 : World.cell? _ ⟨go54, (x17_2 : Int).toNat * 4, none⟩ = some (.int .i64 ((rd_T65 x0_2 x17_2).f0)) := hcc54 0 _ rfl
             have hx54_1 : World.cell? _ ⟨go54, (x17_2 : Int).toNat * 4 + 1, none⟩ = some (.int .i64 ((rd_T65 x0_2 x17_2).f1.f0)) := hcc54 1 _ rfl
             have hx54_2 : World.cell? _ ⟨go54, (x17_2 : Int).toNat * 4 + 2, none⟩ = some (.int .i64 ((rd_T65 x0_2 x17_2).f1.f1)) := hcc54 2 _ rfl
             have hx54_3 : World.cell? _ ⟨go54, (x17_2 : Int).toNat * 4 + 3, none⟩ = some (.int .i64 ((rd_T65 x0_2 x17_2).f2)) := hcc54 3 _ rfl
             have hf54_0 : World.frozen? _ ⟨go54, (x17_2 : Int).toNat * 4, none⟩ = false := hfr54 0
             have hf54_1 : World.frozen? _ ⟨go54, (x17_2 : Int).toNat * 4 + 1, none⟩ = false := hfr54 1
             have hf54_2 : World.frozen? _ ⟨go54, (x17_2 : Int).toNat * 4 + 2, none⟩ = false := hfr54 2
             have hf54_3 : World.frozen? _ ⟨go54, (x17_2 : Int).toNat * 4 + 3, none⟩ = false := hfr54 3
             clear hcl54 hcc54 hfr54 hM54
             replace p54 := eq_true p54
             replace q54 := eq_true q54
             obtain ⟨ce58, hcl58, hM58, hcc58, hfr58⟩ := Kd.R_elem HO_0.out z65 (x17_2 : Int) (of_decide_eq_true (by first | (with_reducible assumption) | assumption)) (by have h_ : (x17_2 : Int) < ((x0_2.length : Int) : Int) := of_decide_eq_true (by first | (with_reducible assumption) | assumption); first | exact h_ | (have e_ := (Kd.R_reads' HO_0.out).1; omega) | simpa using h_)
             obtain rfl := k65_openM hM58
             have HP58 := (Kd.R_seg HO_0.out (x17_2 : Int) (of_decide_eq_true (by first | (with_reducible assumption) | assumption)) (by have h_ : (x17_2 : Int) < ((x0_2.length : Int) : Int) := of_decide_eq_true (by first | (with_reducible assumption) | assumption); first | exact h_ | (have e_ := (Kd.R_reads' HO_0.out).1; omega) | simpa using h_) (seg := [.int .i64 ((rd_T65 x0_2 (ji49)).f0), .int .i64 ((rd_T65 x0_2 (ji49)).f1.f0), .int .i64 ((rd_T65 x0_2 (ji49)).f1.f1), .int .i64 ((rd_T65 x0_2 (ji49)).f2)]) (j := 0) hcl58 hcc58 (show 4 ≤ 4 from by decide) (x' := (⟨(rd_T65 x0_2 (ji49)).f0, (⟨(rd_T65 x0_2 (ji49)).f1.f0, (rd_T65 x0_2 (ji49)).f1.f1⟩ : S26), (rd_T65 x0_2 (ji49)).f2⟩ : S65)) (k65_mkM _ _ _ (⟨(rd_T65 x0_2 (ji49)).f0, (⟨(rd_T65 x0_2 (ji49)).f1.f0, (rd_T65 x0_2 (ji49)).f1.f1⟩ : S26), (rd_T65 x0_2 (ji49)).f2⟩ : S65) ) (fun _ hk => hk)).1
             rw [← Ny225.out] at HP58
             have HQ58 := Aside0.mk HP58
             clear hcl58 hcc58 hfr58 hM58 HP58
             have p55 : 0 ≤ ((ji49) : Int) := of_decide_eq_true (by first | (with_reducible assumption) | assumption)
             have q55 : ((ji49) : Int) < ((x0_2.length : Int) : Int) := of_decide_eq_true (by first | (with_reducible assumption) | assumption)
             obtain ⟨ce55, hcl55, hM55, hcc55, hfr55⟩ := Kd.R_elem HQ58.out z65 ((ji49) : Int) p55 q55
             obtain rfl := k65_openM hM55
             have hx55_0 : World.cell? _ ⟨go54, ((ji49) : Int).toNat * 4, none⟩ = some (.int .i64 ((rd_T65 y225 (ji49)).f0)) := hcc55 0 _ rfl
             have hx55_1 : World.cell? _ ⟨go54, ((ji49) : Int).toNat * 4 + 1, none⟩ = some (.int .i64 ((rd_T65 y225 (ji49)).f1.f0)) := hcc55 1 _ rfl
             have hx55_2 : World.cell? _ ⟨go54, ((ji49) : Int).toNat * 4 + 2, none⟩ = some (.int .i64 ((rd_T65 y225 (ji49)).f1.f1)) := hcc55 2 _ rfl
             have hx55_3 : World.cell? _ ⟨go54, ((ji49) : Int).toNat * 4 + 3, none⟩ = some (.int .i64 ((rd_T65 y225 (ji49)).f2)) := hcc55 3 _ rfl
             have hf55_0 : World.frozen? _ ⟨go54, ((ji49) : Int).toNat * 4, none⟩ = false := hfr55 0
             have hf55_1 : World.frozen? _ ⟨go54, ((ji49) : Int).toNat * 4 + 1, none⟩ = false := hfr55 1
             have hf55_2 : World.frozen? _ ⟨go54, ((ji49) : Int).toNat * 4 + 2, none⟩ = false := hfr55 2
             have hf55_3 : World.frozen? _ ⟨go54, ((ji49) : Int).toNat * 4 + 3, none⟩ = false := hfr55 3
             clear hcl55 hcc55 hfr55 hM55
             replace p55 := eq_true p55
             replace q55 := eq_true q55
             obtain ⟨ce59, hcl59, hM59, hcc59, hfr59⟩ := Kd.R_elem HQ58.out z65 ((ji49) : Int) (of_decide_eq_true (by first | (with_reducible assumption) | assumption)) (by have h_ : ((ji49) : Int) < ((x0_2.length : Int) : Int) := of_decide_eq_true (by first | (with_reducible assumption) | assumption); first | exact h_ | (have e_ := (Kd.R_reads' HO_0.out).1; omega) | simpa using h_)
             obtain rfl := k65_openM hM59
             have HP59 := (Kd.R_seg HQ58.out ((ji49) : Int) (of_decide_eq_true (by first | (with_reducible assumption) | assumption)) (by have h_ : ((ji49) : Int) < ((x0_2.length : Int) : Int) := of_decide_eq_true (by first | (with_reducible assumption) | assumption); first | exact h_ | (have e_ := (Kd.R_reads' HO_0.out).1; omega) | simpa using h_) (seg := [.int .i64 ((rd_T65 x0_2 x17_2).f0), .int .i64 ((rd_T65 x0_2 x17_2).f1.f0), .int .i64 ((rd_T65 x0_2 x17_2).f1.f1), .int .i64 ((rd_T65 x0_2 x17_2).f2)]) (j := 0) hcl59 hcc59 (show 4 ≤ 4 from by decide) (x' := (⟨(rd_T65 x0_2 x17_2).f0, (⟨(rd_T65 x0_2 x17_2).f1.f0, (rd_T65 x0_2 x17_2).f1.f1⟩ : S26), (rd_T65 x0_2 x17_2).f2⟩ : S65)) (k65_mkM _ _ _ (⟨(rd_T65 x0_2 x17_2).f0, (⟨(rd_T65 x0_2 x17_2).f1.f0, (rd_T65 x0_2 x17_2).f1.f1⟩ : S26), (rd_T65 x0_2 x17_2).f2⟩ : S65) ) (fun _ hk => hk)).1
             rw [← Ny226.out] at HP59
             have HQ59 := Aside0.mk HP59
             clear hcl59 hcc59 hfr59 hM59 HP59
             refine start_ (n := 18) (S := fun w' => w'.cell? ⟨go54, (((ji49)).toNat * 4), none⟩ = some (.int .i64 ((rd_T65 x0_2 (ji49)).f0)) ∧ w'.cell? ⟨go54, (((ji49)).toNat * 4) + 1, none⟩ = some (.int .i64 ((rd_T65 x0_2 (ji49)).f1.f0)) ∧ w'.cell? ⟨go54, (((ji49)).toNat * 4) + 2, none⟩ = some (.int .i64 ((rd_T65 x0_2 (ji49)).f1.f1)) ∧ w'.cell? ⟨go54, (((ji49)).toNat * 4) + 3, none⟩ = some (.int .i64 ((rd_T65 x0_2 (ji49)).f2)) ∧ w'.cell? ⟨go54, ((x17_2).toNat * 4), none⟩ = some (.int .i64 ((rd_T65 x0_2 x17_2).f0)) ∧ w'.cell? ⟨go54, ((x17_2).toNat * 4) + 1, none⟩ = some (.int .i64 ((rd_T65 x0_2 x17_2).f1.f0)) ∧ w'.cell? ⟨go54, ((x17_2).toNat * 4) + 2, none⟩ = some (.int .i64 ((rd_T65 x0_2 x17_2).f1.f1)) ∧ w'.cell? ⟨go54, ((x17_2).toNat * 4) + 3, none⟩ = some (.int .i64 ((rd_T65 x0_2 x17_2).f2))) (ds := [15, 17]) #[false, false, false, false, false, false, false, false, false, false, false, false, false, false, false, false, false, false] (by kernel_rfl) rfl rfl ⟨hx223_0, hx223_1, hx223_2, hx223_3, hx224_0, hx224_1, hx224_2, hx224_3⟩ (fun hHeld => ?_); refine with_tabW api_Turn_107.tab23 api_Turn_107.bits23 (fun HT_ HW_ => ?_)
             generalize wr.drew = w56 at HO_0 HK HB GG54 HQ58 HQ59 hf54_0 hf54_1 hf54_2 hf54_3 hf55_0 hf55_1 hf55_2 hf55_3 hx223_0 hx223_1 hx223_2 hx223_3 hx224_0 hx224_1 hx224_2 hx224_3 hx54_0 hx54_1 hx54_2 hx54_3 hx55_0 hx55_1 hx55_2 hx55_3 hHeld ⊢
             have Q_ := Qs.mk (n := 18) [(0, 0, 113, 1), (0, 1, 114, 3), (0, 2, 115, 7), (0, 3, 116, 15), (0, 4, 117, 31), (0, 5, 118, 63), (0, 6, 119, 127), (0, 7, 120, 255), (0, 8, 121, 511), (0, 10, 123, 1535), (0, 11, 124, 3583), (0, 12, 125, 7679), (2, 9, 122, 8191), (2, 13, 126, 16383), (0, 14, 127, 32767)]
             iterate 15 (first | (obtain ⟨q_, Q_⟩ := Qs.p Q_; refine pureQ_ q_ (v := ?_) (a' := ?_) rfl rfl (any_of HT_.out (by kernel_rfl)) (fun _ _ _ h => h) (Or.inl ⟨by rfl, ?_⟩) ?_ ?_; rotate_left; (intro w'; go_simp; with_reducible rfl); rotate_left; (simp only [Act.put, List.setIfInBounds_toArray, List.set_cons_zero, List.set_cons_succ, i64_w, i32_w]; rfl)) | (obtain ⟨q_, Q_⟩ := Qs.t Q_; refine takeQ_ q_ (v := ?_) (a' := ?_) rfl rfl (take_ofW HT_.out HW_.out (by kernel_rfl)) (fun _ _ _ h => h) (Or.inl ⟨by rfl, ?_⟩) hHeld ?_ ?_; rotate_left; (rintro w' ⟨s0, s1, s2, s3, s4, s5, s6, s7⟩; go_simp; with_reducible rfl); rotate_left; (simp only [Act.put, List.setIfInBounds_toArray, List.set_cons_zero, List.set_cons_succ, i64_w, i32_w]; rfl)))
             clear Q_
             refine last_ (i := 15) (N := none) (dn_ 16 18) rfl rfl (one_of HT_.out (by kernel_rfl)) (by decide) (fun K hK => ?_)
             refine skip_ (w1 := ?_) (by rfl) rfl ?_ ?_
             rotate_left
             ·(try simp [go_sem, World.setCells, show k65.sz = 4 from rfl] at hx55_0); (try simp [go_sem, World.setCells, show k65.sz = 4 from rfl] at hx55_1); (try simp [go_sem, World.setCells, show k65.sz = 4 from rfl] at hx55_2); (try simp [go_sem, World.setCells, show k65.sz = 4 from rfl] at hx55_3); (try simp [go_sem, World.setCells, show k65.sz = 4 from rfl] at hf55_0); (try simp [go_sem, World.setCells, show k65.sz = 4 from rfl] at hf55_1); (try simp [go_sem, World.setCells, show k65.sz = 4 from rfl] at hf55_2); (try simp [go_sem, World.setCells, show k65.sz = 4 from rfl] at hf55_3)
              go_simp
              rfl
             refine hK.out _ _ ?_
             clear hK K
             refine pure_ (i := 16) (N := some 128) (v := ?_) (a' := ?_) (dn_ 17 18) rfl rfl (any_of HT_.out (by kernel_rfl)) (fun _ _ _ h => h) (Or.inl ⟨by rfl, ?_⟩) ?_ ?_
             rotate_left
             ·intro w'
              go_simp
              with_reducible rfl
             rotate_left; (simp only [Act.put, List.setIfInBounds_toArray, List.set_cons_zero, List.set_cons_succ, i64_w, i32_w]; rfl)
             refine last_ (i := 17) (N := none) #[true, true, true, true, true, true, true, true, true, true, true, true, true, true, true, true, true, true] rfl rfl (one_of HT_.out (by kernel_rfl)) (by decide) (fun K hK => ?_)
             refine skip_ (w1 := ?_) (by rfl) rfl ?_ ?_
             rotate_left
             ·(try simp [go_sem, World.setCells, show k65.sz = 4 from rfl] at hx55_0); (try simp [go_sem, World.setCells, show k65.sz = 4 from rfl] at hx55_1); (try simp [go_sem, World.setCells, show k65.sz = 4 from rfl] at hx55_2); (try simp [go_sem, World.setCells, show k65.sz = 4 from rfl] at hx55_3); (try simp [go_sem, World.setCells, show k65.sz = 4 from rfl] at hf55_0); (try simp [go_sem, World.setCells, show k65.sz = 4 from rfl] at hf55_1); (try simp [go_sem, World.setCells, show k65.sz = 4 from rfl] at hf55_2); (try simp [go_sem, World.setCells, show k65.sz = 4 from rfl] at hf55_3)
              go_simp
              rfl
             refine hK.out _ _ ?_
             clear hK K
             refine done_ (done_of HT_.out (by kernel_rfl)) ?_
             try go_wp2
             go_roundg k2
             case measure => have := HK1.out; have := HK2.out; omega
             case rel => exact ⟨(y226), (ji49), (by first | rfl | (simp; done) | (simp only [← hji49] <;> (first | rfl | simp)) | (simp [*]; done)), H', ⟨by have := HK1.out; have := HK2.out; omega⟩, ⟨by (with_reducible repeat (first | apply Kd.R_alloc | apply Kd.R_drewN | apply Kd.R_drew)); exact HQ59.out⟩, ⟨by repeat (first | (with_reducible first | exact HK.out | apply Kept.alloc | apply Kept.drewN | apply Kept.drew | refine Kept.setCell ?_ HMgo54.out _ | refine Kept.setCell ?_ HMgo54.out _ | refine Kept.setCell ?_ HMgo54.out _ | refine Kept.setCell ?_ HMgo54.out _ | refine Kept.setCell ?_ HMgo54.out _ | refine Kept.setCell ?_ HMgo54.out _ | refine Kept.setCell ?_ HMgo54.out _ | refine Kept.setCell ?_ HMgo54.out _) | exact HK.out)⟩, ⟨by repeat (with_reducible first | exact HB.out | apply pw_below_drewN | apply below_drew1 | refine below_set ?_ GB54.out | refine below_set ?_ GB54.out | refine below_set ?_ GB54.out | refine below_set ?_ GB54.out | refine below_set ?_ GB54.out | refine below_set ?_ GB54.out | refine below_set ?_ GB54.out | refine below_set ?_ GB54.out)⟩⟩
            ·rw [if_neg c53] at H
             exact absurd H (by simp)
           ·rw [if_neg c52] at H
            exact absurd H (by simp)
          ·rw [if_neg c51] at H
           exact absurd H (by simp)
         ·rw [if_neg c50] at H
          exact absurd H (by simp)
        ·rw [if_neg c48] at H
         have c48b0 : decide (x14_1 < x17_2) = false := decide_eq_false c48
         clear c48
         obtain rfl := Option.some.inj H
         go_wp2
         first | go_end0 | ((try simp only [Exit.inBlock, Exit.then]); refine bodyPost_ret (results_none rfl _ _ _) rfl ?_)
         exact ⟨by first | rfl | (simp [errW_none, errW_some] <;> rfl) | (simp [*, errW_none, errW_some] <;> rfl), by (with_reducible repeat (first | apply Kd.R_alloc | apply Kd.R_drewN | apply Kd.R_drew)); exact HO_0.out, by repeat (with_reducible first | exact HB.out | apply pw_below_drewN | apply below_drew1), by repeat (first | (with_reducible first | exact HK.out | apply Kept.alloc | apply Kept.drewN | apply Kept.drew) | exact HK.out)⟩
  ·rw [if_neg c33] at H
   have c33b0 : ((wrap64 (a3 - a2)) == 1) = false := beq_eq_false_iff_ne.mpr c33
   have c33b1 : ((wrap64 (a3 - a2)) != 1) = true := bne_iff_ne.mpr c33
   have HC60 := Aside0.mk H
   clear H
   go_enter Try.func107, Try.ntmps107
   go_upto_if 140 with (fail)
   generalize (wrap64 ((IntKind.u64.wrap (wrap64 (a1 + a3))) / 2)) = gm_ at *
   generalize (wrap64 (gm_ + a2)) = gn_ at *
   go_cut [20, 21] (fun v20 v21 wc => ∃ (kq : Nat) (x20_59 : Int) (x21_59 : Int), v20 = .int .i64 x20_59 ∧ v21 = .int .i64 x21_59 ∧ Aside0 (api_Turn_107.j4 kq l0 a1 a2 a3 a4 gm_ gn_ x20_59 x21_59 = some r) ∧ Aside0 (kq ≤ k) ∧ Aside0 (Kd.R k65 65 wc w0.heap.size (fun k_ => (P0_ k_ ∨ w.heap.size ≤ k_)) u9000_ l0) ∧ Aside0 (Kept w wc (fun k_ => P0_ k_)) ∧ Aside0 (Below w0.heap.size w0 wc))
   case first =>
    have H := HC60.out
    clear HC60
    by_cases c61 : a2 > gm_
    ·rw [if_pos c61] at H
     have c61b0 : decide (gm_ < a2) = true := decide_eq_true c61
     clear c61
     (first | rw [c61b0] | (simp only [i64_w, i32_w]; rw [c61b0]) | skip)
     have H' := Aside0.mk H
     clear H
     go_wp2
     go_meet
     case rel => exact ⟨_, (wrap64 (gn_ - a3)), gm_, (by first | rfl | (simp; done) | (simp [*]; done)), (by first | rfl | (simp; done) | (simp [*]; done)), H', ⟨by first | omega | exact Nat.le_refl _⟩, ⟨by (with_reducible repeat (first | apply Kd.R_alloc | apply Kd.R_drewN | apply Kd.R_drew)); exact HO0.out⟩, ⟨by repeat (first | (with_reducible first | exact HK.out | apply Kept.alloc | apply Kept.drewN | apply Kept.drew) | exact HK.out)⟩, ⟨by repeat (with_reducible first | exact HB.out | apply pw_below_drewN | apply below_drew1)⟩⟩
    ·rw [if_neg c61] at H
     have c61b0 : decide (gm_ < a2) = false := decide_eq_false c61
     clear c61
     (first | rw [c61b0] | (simp only [i64_w, i32_w]; rw [c61b0]) | skip)
     have H' := Aside0.mk H
     clear H
     go_wp2
     go_meet
     case rel => exact ⟨_, (a1), (a2), (by first | rfl | (simp; done) | (simp [*]; done)), (by first | rfl | (simp; done) | (simp [*]; done)), H', ⟨by first | omega | exact Nat.le_refl _⟩, ⟨by (with_reducible repeat (first | apply Kd.R_alloc | apply Kd.R_drewN | apply Kd.R_drew)); exact HO0.out⟩, ⟨by repeat (first | (with_reducible first | exact HK.out | apply Kept.alloc | apply Kept.drewN | apply Kept.drew) | exact HK.out)⟩, ⟨by repeat (with_reducible first | exact HB.out | apply pw_below_drewN | apply below_drew1)⟩⟩
   case rest =>
    as_aux_lemma =>
    clear HC60
    try clear c1; try clear c2; try clear p2; try clear q2; try clear hx2; try clear c3; try clear c4; try clear c5; try clear p5; try clear q5; try clear hx5; try clear hf5; try clear c6; try clear c6b0; try clear c6b1; try clear p6; try clear c7; try clear c7b0; try clear c9; try clear c9b0; try clear c10; try clear c10b0; try clear c11; try clear c11b0; try clear c12; try clear c12b0; try clear c14; try clear c14b0; try clear c21; try clear c21b0; try clear p21; try clear q21; try clear hx21; try clear p22; try clear q22; try clear hx22; try clear c23; try clear c23b0; try clear c24; try clear c24b0; try clear c25; try clear c25b0; try clear c26; try clear c26b0; try clear c27; try clear p27; try clear q27; try clear hx27; try clear hf27; try clear c28; try clear p28; try clear q28; try clear hx28; try clear hf28; try clear c31; try clear c32; try clear c33; try clear c33b0; try clear c33b1; try clear c34; try clear c34b0; try clear c35; try clear c35b0; try clear c36; try clear c36b0; try clear c38; try clear c38b0; try clear c39; try clear c39b0; try clear c41; try clear c41b0; try clear c48; try clear c48b0; try clear c50; try clear c50b0; try clear c51; try clear c51b0; try clear c52; try clear c52b0; try clear c53; try clear c53b0; try clear c54; try clear p54; try clear q54; try clear hx54; try clear hf54; try clear c55; try clear p55; try clear q55; try clear hx55; try clear hf55; try clear c58; try clear c59; try clear c61; try clear c61b0; try clear hx213_0; try clear hx213_1; try clear hx213_2; try clear hx213_3; try clear hx214_0; try clear hx214_1; try clear hx214_2; try clear hx214_3; try clear hx216_0; try clear hx216_1; try clear hx216_2; try clear hx216_3; try clear hx217_0; try clear hx217_1; try clear hx217_2; try clear hx217_3; try clear hx220_0; try clear hx220_1; try clear hx220_2; try clear hx220_3; try clear hx221_0; try clear hx221_1; try clear hx221_2; try clear hx221_3; try clear hx223_0; try clear hx223_1; try clear hx223_2; try clear hx223_3; try clear hx224_0; try clear hx224_1; try clear hx224_2; try clear hx224_3; try clear hx27_0; try clear hx27_1; try clear hx27_2; try clear hx27_3; try clear hx28_0; try clear hx28_1; try clear hx28_2; try clear hx28_3; try clear hx54_0; try clear hx54_1; try clear hx54_2; try clear hx54_3; try clear hx55_0; try clear hx55_1; try clear hx55_2; try clear hx55_3; try clear p2; try clear p21; try clear p213; try clear p214; try clear p216; try clear p217; try clear p22; try clear p220; try clear p221; try clear p223; try clear p224; try clear p27; try clear p28; try clear p54; try clear p55; try clear p6; try clear q2; try clear q21; try clear q213; try clear q214; try clear q216; try clear q217; try clear q22; try clear q220; try clear q221; try clear q223; try clear q224; try clear q27; try clear q28; try clear q54; try clear q55
    obtain ⟨kq, x20_59, x21_59, rfl, rfl, HA, HJ59, HO_0, HK, HB⟩ := hcut
    cases kq with
    | zero => exact absurd HA.out (by simp [api_Turn_107.j4])
    | succ kj59 =>
     have H := HA.out
     clear HA
     simp only [api_Turn_107.j4] at H
     have H' := Aside0.mk H
     clear H
     go_wp2
     go_loopg [20, 21] kj59 (fun kq v20 v21 w' => ∃ (x20_2 : Int) (x21_2 : Int), v20 = .int .i64 x20_2 ∧ v21 = .int .i64 x21_2 ∧ Aside0 (api_Turn_107.l4 kq l0 a1 a2 a3 a4 gm_ gn_ x20_2 x21_2 (wrap64 (gn_ - 1)) = some r) ∧ Aside0 (kq ≤ kj59) ∧ Aside0 (Kd.R k65 65 w' w0.heap.size (fun k_ => (P0_ k_ ∨ w.heap.size ≤ k_)) u9000_ l0) ∧ Aside0 (Kept w w' (fun k_ => P0_ k_)) ∧ Aside0 (Below w0.heap.size w0 w'))
     case atStart => exact ⟨(x20_59), (x21_59), (by first | rfl | (simp; done) | (simp [*]; done)), (by first | rfl | (simp; done) | (simp [*]; done)), H', ⟨Nat.le_refl _⟩, ⟨by (with_reducible repeat (first | apply Kd.R_alloc | apply Kd.R_drewN | apply Kd.R_drew)); exact HO_0.out⟩, ⟨by repeat (first | (with_reducible first | exact HK.out | apply Kept.alloc | apply Kept.drewN | apply Kept.drew) | exact HK.out)⟩, ⟨by repeat (with_reducible first | exact HB.out | apply pw_below_drewN | apply below_drew1)⟩⟩
     case round =>
      clear H'
      try clear c1; try clear c2; try clear p2; try clear q2; try clear hx2; try clear c3; try clear c4; try clear c5; try clear p5; try clear q5; try clear hx5; try clear hf5; try clear c6; try clear c6b0; try clear c6b1; try clear p6; try clear c7; try clear c7b0; try clear c9; try clear c9b0; try clear c10; try clear c10b0; try clear c11; try clear c11b0; try clear c12; try clear c12b0; try clear c14; try clear c14b0; try clear c21; try clear c21b0; try clear p21; try clear q21; try clear hx21; try clear p22; try clear q22; try clear hx22; try clear c23; try clear c23b0; try clear c24; try clear c24b0; try clear c25; try clear c25b0; try clear c26; try clear c26b0; try clear c27; try clear p27; try clear q27; try clear hx27; try clear hf27; try clear c28; try clear p28; try clear q28; try clear hx28; try clear hf28; try clear c31; try clear c32; try clear c33; try clear c33b0; try clear c33b1; try clear c34; try clear c34b0; try clear c35; try clear c35b0; try clear c36; try clear c36b0; try clear c38; try clear c38b0; try clear c39; try clear c39b0; try clear c41; try clear c41b0; try clear c48; try clear c48b0; try clear c50; try clear c50b0; try clear c51; try clear c51b0; try clear c52; try clear c52b0; try clear c53; try clear c53b0; try clear c54; try clear p54; try clear q54; try clear hx54; try clear hf54; try clear c55; try clear p55; try clear q55; try clear hx55; try clear hf55; try clear c58; try clear c59; try clear c61; try clear c61b0; try clear hx213_0; try clear hx213_1; try clear hx213_2; try clear hx213_3; try clear hx214_0; try clear hx214_1; try clear hx214_2; try clear hx214_3; try clear hx216_0; try clear hx216_1; try clear hx216_2; try clear hx216_3; try clear hx217_0; try clear hx217_1; try clear hx217_2; try clear hx217_3; try clear hx220_0; try clear hx220_1; try clear hx220_2; try clear hx220_3; try clear hx221_0; try clear hx221_1; try clear hx221_2; try clear hx221_3; try clear hx223_0; try clear hx223_1; try clear hx223_2; try clear hx223_3; try clear hx224_0; try clear hx224_1; try clear hx224_2; try clear hx224_3; try clear hx27_0; try clear hx27_1; try clear hx27_2; try clear hx27_3; try clear hx28_0; try clear hx28_1; try clear hx28_2; try clear hx28_3; try clear hx54_0; try clear hx54_1; try clear hx54_2; try clear hx54_3; try clear hx55_0; try clear hx55_1; try clear hx55_2; try clear hx55_3; try clear p2; try clear p21; try clear p213; try clear p214; try clear p216; try clear p217; try clear p22; try clear p220; try clear p221; try clear p223; try clear p224; try clear p27; try clear p28; try clear p5; try clear p54; try clear p55; try clear p6; try clear q2; try clear q21; try clear q213; try clear q214; try clear q216; try clear q217; try clear q22; try clear q220; try clear q221; try clear q223; try clear q224; try clear q27; try clear q28; try clear q5; try clear q54; try clear q55
      obtain ⟨x20_2, x21_2, rfl, rfl, HA, HK2, HO_0, HK, HB⟩ := hrel
      cases gk with
      | zero => exact absurd HA.out (by simp [api_Turn_107.l4])
      | succ k2 =>
       have H := HA.out
       clear HA
       simp only [api_Turn_107.l4] at H
       by_cases c62 : x20_2 < x21_2
       ·rw [if_pos c62] at H
        have c62b0 : decide (x20_2 < x21_2) = true := decide_eq_true c62
        clear c62
        obtain ⟨ji63, hji63⟩ : ∃ j_ : Int, (wrap64 ((wrap64 (gn_ - 1)) - (wrap64 ((IntKind.u64.wrap (wrap64 (x20_2 + x21_2))) / 2)))) = j_ := ⟨_, rfl⟩
        replace H : (if 0 ≤ (ji63) then (if (ji63) < (l0.length : Int) then (if 0 ≤ (wrap64 ((IntKind.u64.wrap (wrap64 (x20_2 + x21_2))) / 2)) then (if (wrap64 ((IntKind.u64.wrap (wrap64 (x20_2 + x21_2))) / 2)) < (l0.length : Int) then ((due_Order_1.f k2 ((rd_T65 l0 (ji63)).f0) ((rd_T65 l0 (ji63)).f1.f0) ((rd_T65 l0 (ji63)).f1.f1) ((rd_T65 l0 (ji63)).f2) ((rd_T65 l0 (wrap64 ((IntKind.u64.wrap (wrap64 (x20_2 + x21_2))) / 2))).f0) ((rd_T65 l0 (wrap64 ((IntKind.u64.wrap (wrap64 (x20_2 + x21_2))) / 2))).f1.f0) ((rd_T65 l0 (wrap64 ((IntKind.u64.wrap (wrap64 (x20_2 + x21_2))) / 2))).f1.f1) ((rd_T65 l0 (wrap64 ((IntKind.u64.wrap (wrap64 (x20_2 + x21_2))) / 2))).f2)).bind fun t229 => (if t229 < 0 then (api_Turn_107.l4 k2 l0 a1 a2 a3 a4 gm_ gn_ x20_2 (wrap64 ((IntKind.u64.wrap (wrap64 (x20_2 + x21_2))) / 2)) (wrap64 (gn_ - 1))) else (api_Turn_107.l4 k2 l0 a1 a2 a3 a4 gm_ gn_ (wrap64 ((wrap64 ((IntKind.u64.wrap (wrap64 (x20_2 + x21_2))) / 2)) + 1)) x21_2 (wrap64 (gn_ - 1))))) else (none)) else (none)) else (none)) else (none)) = some r := by first | (rw [hji63] at H; exact H) | (simp only [hji63] at H ⊢; exact H)
        have hji63w : (IntKind.i64.wrap ((wrap64 (gn_ - 1)) - (wrap64 ((IntKind.u64.wrap (wrap64 (x20_2 + x21_2))) / 2)))) = ji63 := (i64_w _).trans hji63
        by_cases c64 : 0 ≤ (ji63)
        ·rw [if_pos c64] at H
         have c64b0 : decide (0 ≤ (ji63)) = true := decide_eq_true c64
         clear c64
         by_cases c65 : (ji63) < (l0.length : Int)
         ·rw [if_pos c65] at H
          have c65b0 : decide ((ji63) < (l0.length : Int)) = true := decide_eq_true c65
          clear c65
          obtain ⟨ji66, hji66⟩ : ∃ j_ : Int, (wrap64 ((IntKind.u64.wrap (wrap64 (x20_2 + x21_2))) / 2)) = j_ := ⟨_, rfl⟩
          replace H : (if 0 ≤ (ji66) then (if (ji66) < (l0.length : Int) then ((due_Order_1.f k2 ((rd_T65 l0 (ji63)).f0) ((rd_T65 l0 (ji63)).f1.f0) ((rd_T65 l0 (ji63)).f1.f1) ((rd_T65 l0 (ji63)).f2) ((rd_T65 l0 (ji66)).f0) ((rd_T65 l0 (ji66)).f1.f0) ((rd_T65 l0 (ji66)).f1.f1) ((rd_T65 l0 (ji66)).f2)).bind fun t229 => (if t229 < 0 then (api_Turn_107.l4 k2 l0 a1 a2 a3 a4 gm_ gn_ x20_2 ji66 (wrap64 (gn_ - 1))) else (api_Turn_107.l4 k2 l0 a1 a2 a3 a4 gm_ gn_ (wrap64 ((ji66) + 1)) x21_2 (wrap64 (gn_ - 1))))) else (none)) else (none)) = some r := by first | (rw [hji66] at H; exact H) | (simp only [hji66] at H ⊢; exact H)
          have hji66w : (IntKind.i64.wrap ((IntKind.u64.wrap (wrap64 (x20_2 + x21_2))) / 2)) = ji66 := (i64_w _).trans hji66
          (try rw [hji66] at hji63 hji63w)
          by_cases c67 : 0 ≤ (ji66)
          ·rw [if_pos c67] at H
           have c67b0 : decide (0 ≤ (ji66)) = true := decide_eq_true c67
           clear c67
           by_cases c68 : (ji66) < (l0.length : Int)
           ·rw [if_pos c68] at H
            have c68b0 : decide ((ji66) < (l0.length : Int)) = true := decide_eq_true c68
            clear c68
            replace H := Option.bind_eq_some_iff.mp H
            obtain ⟨t229, A690, H⟩ := H
            try dsimp only at H
            have A69 := Aside0.mk A690
            clear A690
            by_cases c70 : t229 < 0
            ·rw [if_pos c70] at H
             have c70b0 : decide (t229 < 0) = true := decide_eq_true c70
             clear c70
             have H' := Aside0.mk H
             clear H
             try go_wp2
             replace HO_0 := Aside0.mk (Kd.R_drew HO_0.out)
             replace HK := Aside0.mk (Kept.drew HK.out)
             replace HB := Aside0.mk (below_drew1 HB.out)
             obtain ⟨Ao72, co72, eo72⟩ := Kd.R_slice HO_0.out
             (first | subst eo72 | (injection eo72 with f1_ f2_ f3_; have f4_ := f1_.symm; have f5_ := f3_.symm; clear f1_ f2_ f3_; subst f4_; subst f5_))
             have p227 : 0 ≤ ((ji63) : Int) := of_decide_eq_true (by first | (with_reducible assumption) | assumption)
             have q227 : (ji63) < (l0.length : Int) := of_decide_eq_true (by first | (with_reducible assumption) | assumption)
             obtain ⟨ad227, e227, hx227_0, hx227_1, hx227_2, hx227_3⟩ := at_T65 (Kd.R_reads' HO_0.out).2.2 (ji63) p227 q227
             cases e227
             replace p227 := eq_true p227
             replace q227 := eq_true q227
             have p228 : 0 ≤ ((ji66) : Int) := of_decide_eq_true (by first | (with_reducible assumption) | assumption)
             have q228 : (ji66) < (l0.length : Int) := of_decide_eq_true (by first | (with_reducible assumption) | assumption)
             obtain ⟨ad228, e228, hx228_0, hx228_1, hx228_2, hx228_3⟩ := at_T65 (Kd.R_reads' HO_0.out).2.2 (ji66) p228 q228
             obtain rfl : ad227 = ad228 := (by injection e228)
             replace p228 := eq_true p228
             replace q228 := eq_true q228
             refine start_ (n := 14) (S := fun w' => w'.cell? (ad227.add (((ji63)).toNat * 4)) = some (.int .i64 ((rd_T65 l0 (ji63)).f0)) ∧ w'.cell? ⟨(ad227.add (((ji63)).toNat * 4)).block, (ad227.add (((ji63)).toNat * 4)).off + 1, none⟩ = some (.int .i64 ((rd_T65 l0 (ji63)).f1.f0)) ∧ w'.cell? ⟨(ad227.add (((ji63)).toNat * 4)).block, (ad227.add (((ji63)).toNat * 4)).off + 2, none⟩ = some (.int .i64 ((rd_T65 l0 (ji63)).f1.f1)) ∧ w'.cell? ⟨(ad227.add (((ji63)).toNat * 4)).block, (ad227.add (((ji63)).toNat * 4)).off + 3, none⟩ = some (.int .i64 ((rd_T65 l0 (ji63)).f2)) ∧ w'.cell? (ad227.add (((ji66)).toNat * 4)) = some (.int .i64 ((rd_T65 l0 (ji66)).f0)) ∧ w'.cell? ⟨(ad227.add (((ji66)).toNat * 4)).block, (ad227.add (((ji66)).toNat * 4)).off + 1, none⟩ = some (.int .i64 ((rd_T65 l0 (ji66)).f1.f0)) ∧ w'.cell? ⟨(ad227.add (((ji66)).toNat * 4)).block, (ad227.add (((ji66)).toNat * 4)).off + 2, none⟩ = some (.int .i64 ((rd_T65 l0 (ji66)).f1.f1)) ∧ w'.cell? ⟨(ad227.add (((ji66)).toNat * 4)).block, (ad227.add (((ji66)).toNat * 4)).off + 3, none⟩ = some (.int .i64 ((rd_T65 l0 (ji66)).f2))) (ds := []) #[false, false, false, false, false, false, false, false, false, false, false, false, false, false] (by kernel_rfl) rfl rfl ⟨hx227_0, hx227_1, hx227_2, hx227_3, hx228_0, hx228_1, hx228_2, hx228_3⟩ (fun hHeld => ?_); refine with_tabW api_Turn_107.tab35 api_Turn_107.bits35 (fun HT_ HW_ => ?_)
             generalize wr.drew = w71 at HO_0 HK HB hx227_0 hx227_1 hx227_2 hx227_3 hx228_0 hx228_1 hx228_2 hx228_3 hHeld ⊢
             have Q_ := Qs.mk (n := 14) [(0, 0, 158, 1), (0, 1, 159, 3), (0, 2, 160, 7), (0, 3, 161, 15), (0, 4, 162, 31), (0, 5, 163, 63), (0, 7, 165, 191), (0, 8, 166, 447), (0, 9, 167, 959), (2, 6, 164, 1023), (2, 10, 168, 2047)]
             iterate 11 (first | (obtain ⟨q_, Q_⟩ := Qs.p Q_; refine pureQ_ q_ (v := ?_) (a' := ?_) rfl rfl (any_of HT_.out (by kernel_rfl)) (fun _ _ _ h => h) (Or.inl ⟨by rfl, ?_⟩) ?_ ?_; rotate_left; (intro w'; go_simp; with_reducible rfl); rotate_left; (simp only [Act.put, List.setIfInBounds_toArray, List.set_cons_zero, List.set_cons_succ, i64_w, i32_w]; rfl)) | (obtain ⟨q_, Q_⟩ := Qs.t Q_; refine takeQ_ q_ (v := ?_) (a' := ?_) rfl rfl (take_ofW HT_.out HW_.out (by kernel_rfl)) (fun _ _ _ h => h) (Or.inl ⟨by rfl, ?_⟩) hHeld ?_ ?_; rotate_left; (rintro w' ⟨s0, s1, s2, s3, s4, s5, s6, s7⟩; go_simp; with_reducible rfl); rotate_left; (simp only [Act.put, List.setIfInBounds_toArray, List.set_cons_zero, List.set_cons_succ, i64_w, i32_w]; rfl)))
             clear Q_
             refine one_ (i := 11) (N := some 169) (dn_ 12 14) rfl rfl (one_of HT_.out (by kernel_rfl)) (by decide) (fun K hK => ?_)
             refine goesV_ Try.func79 (by kernel_rfl) rfl #[.agg #[.int .i64 ((rd_T65 l0 (ji63)).f0), .int .i64 ((rd_T65 l0 (ji63)).f1.f0), .int .i64 ((rd_T65 l0 (ji63)).f1.f1), .int .i64 ((rd_T65 l0 (ji63)).f2)], .agg #[.int .i64 ((rd_T65 l0 (ji66)).f0), .int .i64 ((rd_T65 l0 (ji66)).f1.f0), .int .i64 ((rd_T65 l0 (ji66)).f1.f1), .int .i64 ((rd_T65 l0 (ji66)).f2)]] (by rfl) rfl rfl (by (try simp only [List.map_toArray, List.map_cons, List.map_nil]); first | done | (simp only [hji63, hji66]; rfl) | rfl | (simp only [List.length_drop, List.length_take]; rfl)) (by rfl) ?_
             with_reducible refine (due_Order_1.calls k2 ((rd_T65 l0 (ji63)).f0) ((rd_T65 l0 (ji63)).f1.f0) ((rd_T65 l0 (ji63)).f1.f1) ((rd_T65 l0 (ji63)).f2) ((rd_T65 l0 (ji66)).f0) ((rd_T65 l0 (ji66)).f1.f0) ((rd_T65 l0 (ji66)).f1.f1) ((rd_T65 l0 (ji66)).f2) t229 _ A69.out).mono ?_
             rintro e w73 ⟨rfl, hb⟩
             have HS0_ := (hb.cell (World.block_lt_of_cell? _ _ (hHeld.1))).trans (hHeld.1)
             have HS1_ := (hb.cell (World.block_lt_of_cell? _ _ (hHeld.2.1))).trans (hHeld.2.1)
             have HS2_ := (hb.cell (World.block_lt_of_cell? _ _ (hHeld.2.2.1))).trans (hHeld.2.2.1)
             have HS3_ := (hb.cell (World.block_lt_of_cell? _ _ (hHeld.2.2.2.1))).trans (hHeld.2.2.2.1)
             have HS4_ := (hb.cell (World.block_lt_of_cell? _ _ (hHeld.2.2.2.2.1))).trans (hHeld.2.2.2.2.1)
             have HS5_ := (hb.cell (World.block_lt_of_cell? _ _ (hHeld.2.2.2.2.2.1))).trans (hHeld.2.2.2.2.2.1)
             have HS6_ := (hb.cell (World.block_lt_of_cell? _ _ (hHeld.2.2.2.2.2.2.1))).trans (hHeld.2.2.2.2.2.2.1)
             have HS7_ := (hb.cell (World.block_lt_of_cell? _ _ (hHeld.2.2.2.2.2.2.2))).trans (hHeld.2.2.2.2.2.2.2)
             refine ⟨_, rfl, ?_⟩
             replace HO_0 := rb_ HO_0 hb
             replace HK := Aside0.mk (Kept.below (S := (fun k_ => P0_ k_)) (by repeat (first | (with_reducible first | exact HK.out | apply Kept.alloc | apply Kept.drewN | apply Kept.drew) | exact HK.out)) hb)
             replace HB := Aside0.mk (below_step HB.out hb)
             (try clear hb)
             (try clear hb2)
             (try clear hk)
             (try clear hi)
             refine hK.out _ _ ⟨HS0_, HS1_, HS2_, HS3_, HS4_, HS5_, HS6_, HS7_⟩ (fun hHeld => ?_)
             clear hK K
             refine norm_ (a' := ?_) ?_ ?_
             rotate_left
             ·show Act.put _ (some 169) _ = _
              simp only [Act.put, List.setIfInBounds_toArray, List.set_cons_zero, List.set_cons_succ, i64_w, i32_w]
              rfl
             refine pure_ (i := 12) (N := some 170) (v := ?_) (a' := ?_) (dn_ 13 14) rfl rfl (any_of HT_.out (by kernel_rfl)) (fun _ _ _ h => h) (Or.inl ⟨by rfl, ?_⟩) ?_ ?_
             rotate_left
             ·intro w'
              go_simp
              with_reducible rfl
             rotate_left; (simp only [Act.put, List.setIfInBounds_toArray, List.set_cons_zero, List.set_cons_succ, i64_w, i32_w]; rfl)
             refine pure_ (i := 13) (N := some 171) (v := ?_) (a' := ?_) #[true, true, true, true, true, true, true, true, true, true, true, true, true, true] rfl rfl (any_of HT_.out (by kernel_rfl)) (fun _ _ _ h => h) (Or.inl ⟨by rfl, ?_⟩) ?_ ?_
             rotate_left
             ·intro w'
              go_simp
              with_reducible rfl
             rotate_left; (simp only [Act.put, List.setIfInBounds_toArray, List.set_cons_zero, List.set_cons_succ, i64_w, i32_w]; rfl)
             refine done_ (done_of HT_.out (by kernel_rfl)) ?_
             try go_wp2
             go_roundg k2
             case measure => have := HJ59.out; have := HK2.out; omega
             case rel => exact ⟨(x20_2), (ji66), (by first | rfl | (simp; done) | (simp [*]; done)), (by first | rfl | (simp; done) | (simp only [← hji66] <;> (first | rfl | simp)) | (simp [*]; done)), H', ⟨by have := HJ59.out; have := HK2.out; omega⟩, ⟨by (with_reducible repeat (first | apply Kd.R_alloc | apply Kd.R_drewN | apply Kd.R_drew)); exact HO_0.out⟩, ⟨by repeat (first | (with_reducible first | exact HK.out | apply Kept.alloc | apply Kept.drewN | apply Kept.drew) | exact HK.out)⟩, ⟨by repeat (with_reducible first | exact HB.out | apply pw_below_drewN | apply below_drew1)⟩⟩
            ·rw [if_neg c70] at H
             have c70b0 : decide (t229 < 0) = false := decide_eq_false c70
             clear c70
             have H' := Aside0.mk H
             clear H
             try go_wp2
             replace HO_0 := Aside0.mk (Kd.R_drew HO_0.out)
             replace HK := Aside0.mk (Kept.drew HK.out)
             replace HB := Aside0.mk (below_drew1 HB.out)
             obtain ⟨Ao75, co75, eo75⟩ := Kd.R_slice HO_0.out
             (first | subst eo75 | (injection eo75 with f1_ f2_ f3_; have f4_ := f1_.symm; have f5_ := f3_.symm; clear f1_ f2_ f3_; subst f4_; subst f5_))
             have p227 : 0 ≤ ((ji63) : Int) := of_decide_eq_true (by first | (with_reducible assumption) | assumption)
             have q227 : (ji63) < (l0.length : Int) := of_decide_eq_true (by first | (with_reducible assumption) | assumption)
             obtain ⟨ad227, e227, hx227_0, hx227_1, hx227_2, hx227_3⟩ := at_T65 (Kd.R_reads' HO_0.out).2.2 (ji63) p227 q227
             cases e227
             replace p227 := eq_true p227
             replace q227 := eq_true q227
             have p228 : 0 ≤ ((ji66) : Int) := of_decide_eq_true (by first | (with_reducible assumption) | assumption)
             have q228 : (ji66) < (l0.length : Int) := of_decide_eq_true (by first | (with_reducible assumption) | assumption)
             obtain ⟨ad228, e228, hx228_0, hx228_1, hx228_2, hx228_3⟩ := at_T65 (Kd.R_reads' HO_0.out).2.2 (ji66) p228 q228
             obtain rfl : ad227 = ad228 := (by injection e228)
             replace p228 := eq_true p228
             replace q228 := eq_true q228
             refine start_ (n := 14) (S := fun w' => w'.cell? (ad227.add (((ji63)).toNat * 4)) = some (.int .i64 ((rd_T65 l0 (ji63)).f0)) ∧ w'.cell? ⟨(ad227.add (((ji63)).toNat * 4)).block, (ad227.add (((ji63)).toNat * 4)).off + 1, none⟩ = some (.int .i64 ((rd_T65 l0 (ji63)).f1.f0)) ∧ w'.cell? ⟨(ad227.add (((ji63)).toNat * 4)).block, (ad227.add (((ji63)).toNat * 4)).off + 2, none⟩ = some (.int .i64 ((rd_T65 l0 (ji63)).f1.f1)) ∧ w'.cell? ⟨(ad227.add (((ji63)).toNat * 4)).block, (ad227.add (((ji63)).toNat * 4)).off + 3, none⟩ = some (.int .i64 ((rd_T65 l0 (ji63)).f2)) ∧ w'.cell? (ad227.add (((ji66)).toNat * 4)) = some (.int .i64 ((rd_T65 l0 (ji66)).f0)) ∧ w'.cell? ⟨(ad227.add (((ji66)).toNat * 4)).block, (ad227.add (((ji66)).toNat * 4)).off + 1, none⟩ = some (.int .i64 ((rd_T65 l0 (ji66)).f1.f0)) ∧ w'.cell? ⟨(ad227.add (((ji66)).toNat * 4)).block, (ad227.add (((ji66)).toNat * 4)).off + 2, none⟩ = some (.int .i64 ((rd_T65 l0 (ji66)).f1.f1)) ∧ w'.cell? ⟨(ad227.add (((ji66)).toNat * 4)).block, (ad227.add (((ji66)).toNat * 4)).off + 3, none⟩ = some (.int .i64 ((rd_T65 l0 (ji66)).f2))) (ds := []) #[false, false, false, false, false, false, false, false, false, false, false, false, false, false] (by kernel_rfl) rfl rfl ⟨hx227_0, hx227_1, hx227_2, hx227_3, hx228_0, hx228_1, hx228_2, hx228_3⟩ (fun hHeld => ?_); refine with_tabW api_Turn_107.tab35 api_Turn_107.bits35 (fun HT_ HW_ => ?_)
             generalize wr.drew = w74 at HO_0 HK HB hx227_0 hx227_1 hx227_2 hx227_3 hx228_0 hx228_1 hx228_2 hx228_3 hHeld ⊢
             have Q_ := Qs.mk (n := 14) [(0, 0, 158, 1), (0, 1, 159, 3), (0, 2, 160, 7), (0, 3, 161, 15), (0, 4, 162, 31), (0, 5, 163, 63), (0, 7, 165, 191), (0, 8, 166, 447), (0, 9, 167, 959), (2, 6, 164, 1023), (2, 10, 168, 2047)]
             iterate 11 (first | (obtain ⟨q_, Q_⟩ := Qs.p Q_; refine pureQ_ q_ (v := ?_) (a' := ?_) rfl rfl (any_of HT_.out (by kernel_rfl)) (fun _ _ _ h => h) (Or.inl ⟨by rfl, ?_⟩) ?_ ?_; rotate_left; (intro w'; go_simp; with_reducible rfl); rotate_left; (simp only [Act.put, List.setIfInBounds_toArray, List.set_cons_zero, List.set_cons_succ, i64_w, i32_w]; rfl)) | (obtain ⟨q_, Q_⟩ := Qs.t Q_; refine takeQ_ q_ (v := ?_) (a' := ?_) rfl rfl (take_ofW HT_.out HW_.out (by kernel_rfl)) (fun _ _ _ h => h) (Or.inl ⟨by rfl, ?_⟩) hHeld ?_ ?_; rotate_left; (rintro w' ⟨s0, s1, s2, s3, s4, s5, s6, s7⟩; go_simp; with_reducible rfl); rotate_left; (simp only [Act.put, List.setIfInBounds_toArray, List.set_cons_zero, List.set_cons_succ, i64_w, i32_w]; rfl)))
             clear Q_
             refine one_ (i := 11) (N := some 169) (dn_ 12 14) rfl rfl (one_of HT_.out (by kernel_rfl)) (by decide) (fun K hK => ?_)
             refine goesV_ Try.func79 (by kernel_rfl) rfl #[.agg #[.int .i64 ((rd_T65 l0 (ji63)).f0), .int .i64 ((rd_T65 l0 (ji63)).f1.f0), .int .i64 ((rd_T65 l0 (ji63)).f1.f1), .int .i64 ((rd_T65 l0 (ji63)).f2)], .agg #[.int .i64 ((rd_T65 l0 (ji66)).f0), .int .i64 ((rd_T65 l0 (ji66)).f1.f0), .int .i64 ((rd_T65 l0 (ji66)).f1.f1), .int .i64 ((rd_T65 l0 (ji66)).f2)]] (by rfl) rfl rfl (by (try simp only [List.map_toArray, List.map_cons, List.map_nil]); first | done | (simp only [hji63, hji66]; rfl) | rfl | (simp only [List.length_drop, List.length_take]; rfl)) (by rfl) ?_
             with_reducible refine (due_Order_1.calls k2 ((rd_T65 l0 (ji63)).f0) ((rd_T65 l0 (ji63)).f1.f0) ((rd_T65 l0 (ji63)).f1.f1) ((rd_T65 l0 (ji63)).f2) ((rd_T65 l0 (ji66)).f0) ((rd_T65 l0 (ji66)).f1.f0) ((rd_T65 l0 (ji66)).f1.f1) ((rd_T65 l0 (ji66)).f2) t229 _ A69.out).mono ?_
             rintro e w76 ⟨rfl, hb⟩
             have HS0_ := (hb.cell (World.block_lt_of_cell? _ _ (hHeld.1))).trans (hHeld.1)
             have HS1_ := (hb.cell (World.block_lt_of_cell? _ _ (hHeld.2.1))).trans (hHeld.2.1)
             have HS2_ := (hb.cell (World.block_lt_of_cell? _ _ (hHeld.2.2.1))).trans (hHeld.2.2.1)
             have HS3_ := (hb.cell (World.block_lt_of_cell? _ _ (hHeld.2.2.2.1))).trans (hHeld.2.2.2.1)
             have HS4_ := (hb.cell (World.block_lt_of_cell? _ _ (hHeld.2.2.2.2.1))).trans (hHeld.2.2.2.2.1)
             have HS5_ := (hb.cell (World.block_lt_of_cell? _ _ (hHeld.2.2.2.2.2.1))).trans (hHeld.2.2.2.2.2.1)
             have HS6_ := (hb.cell (World.block_lt_of_cell? _ _ (hHeld.2.2.2.2.2.2.1))).trans (hHeld.2.2.2.2.2.2.1)
             have HS7_ := (hb.cell (World.block_lt_of_cell? _ _ (hHeld.2.2.2.2.2.2.2))).trans (hHeld.2.2.2.2.2.2.2)
             refine ⟨_, rfl, ?_⟩
             replace HO_0 := rb_ HO_0 hb
             replace HK := Aside0.mk (Kept.below (S := (fun k_ => P0_ k_)) (by repeat (first | (with_reducible first | exact HK.out | apply Kept.alloc | apply Kept.drewN | apply Kept.drew) | exact HK.out)) hb)
             replace HB := Aside0.mk (below_step HB.out hb)
             (try clear hb)
             (try clear hb2)
             (try clear hk)
             (try clear hi)
             refine hK.out _ _ ⟨HS0_, HS1_, HS2_, HS3_, HS4_, HS5_, HS6_, HS7_⟩ (fun hHeld => ?_)
             clear hK K
             refine norm_ (a' := ?_) ?_ ?_
             rotate_left
             ·show Act.put _ (some 169) _ = _
              simp only [Act.put, List.setIfInBounds_toArray, List.set_cons_zero, List.set_cons_succ, i64_w, i32_w]
              rfl
             refine pure_ (i := 12) (N := some 170) (v := ?_) (a' := ?_) (dn_ 13 14) rfl rfl (any_of HT_.out (by kernel_rfl)) (fun _ _ _ h => h) (Or.inl ⟨by rfl, ?_⟩) ?_ ?_
             rotate_left
             ·intro w'
              go_simp
              with_reducible rfl
             rotate_left; (simp only [Act.put, List.setIfInBounds_toArray, List.set_cons_zero, List.set_cons_succ, i64_w, i32_w]; rfl)
             refine pure_ (i := 13) (N := some 171) (v := ?_) (a' := ?_) #[true, true, true, true, true, true, true, true, true, true, true, true, true, true] rfl rfl (any_of HT_.out (by kernel_rfl)) (fun _ _ _ h => h) (Or.inl ⟨by rfl, ?_⟩) ?_ ?_
             rotate_left
             ·intro w'
              go_simp
              with_reducible rfl
             rotate_left; (simp only [Act.put, List.setIfInBounds_toArray, List.set_cons_zero, List.set_cons_succ, i64_w, i32_w]; rfl)
             refine done_ (done_of HT_.out (by kernel_rfl)) ?_
             try go_wp2
             go_roundg k2
             case measure => have := HJ59.out; have := HK2.out; omega
             case rel => exact ⟨(wrap64 ((ji66) + 1)), (x21_2), (by first | rfl | (simp; done) | (simp only [← hji66] <;> (first | rfl | simp)) | (simp [*]; done)), (by first | rfl | (simp; done) | (simp [*]; done)), H', ⟨by have := HJ59.out; have := HK2.out; omega⟩, ⟨by (with_reducible repeat (first | apply Kd.R_alloc | apply Kd.R_drewN | apply Kd.R_drew)); exact HO_0.out⟩, ⟨by repeat (first | (with_reducible first | exact HK.out | apply Kept.alloc | apply Kept.drewN | apply Kept.drew) | exact HK.out)⟩, ⟨by repeat (with_reducible first | exact HB.out | apply pw_below_drewN | apply below_drew1)⟩⟩
           ·rw [if_neg c68] at H
            exact absurd H (by simp)
          ·rw [if_neg c67] at H
           exact absurd H (by simp)
         ·rw [if_neg c65] at H
          exact absurd H (by simp)
        ·rw [if_neg c64] at H
         exact absurd H (by simp)
       ·rw [if_neg c62] at H
        have c62b0 : decide (x20_2 < x21_2) = false := decide_eq_false c62
        clear c62
        have HC77 := Aside0.mk H
        clear H
        go_upto_region 39 with (fail)
        go_cut [185] (fun v185 wc => ∃ (kq : Nat) (x185_76 : Bool), v185 = .bool x185_76 ∧ Aside0 (api_Turn_107.j6 kq l0 a1 a2 a3 a4 gm_ x20_2 (wrap64 (gn_ - x20_2)) x185_76 = some r) ∧ Aside0 (kq ≤ k2) ∧ Aside0 (Kd.R k65 65 wc w0.heap.size (fun k_ => (P0_ k_ ∨ w.heap.size ≤ k_)) u9000_ l0) ∧ Aside0 (Kept w wc (fun k_ => P0_ k_)) ∧ Aside0 (Below w0.heap.size w0 wc))
        case first =>
         have H := HC77.out
         clear HC77
         by_cases c78 : x20_2 < a2
         ·rw [if_pos c78] at H
          have c78b0 : decide (x20_2 < a2) = true := decide_eq_true c78
          clear c78
          (first | rw [c78b0] | (simp only [i64_w, i32_w]; rw [c78b0]) | skip)
          have H' := Aside0.mk H
          clear H
          go_wp2
          go_meet
          case rel => exact ⟨_, (decide (a2 < (wrap64 (gn_ - x20_2)))), (by first | rfl | (simp; done) | (simp [*]; done)), H', ⟨by have := HJ59.out; have := HK2.out; first | omega | exact Nat.le_refl _⟩, ⟨by (with_reducible repeat (first | apply Kd.R_alloc | apply Kd.R_drewN | apply Kd.R_drew)); exact HO_0.out⟩, ⟨by repeat (first | (with_reducible first | exact HK.out | apply Kept.alloc | apply Kept.drewN | apply Kept.drew) | exact HK.out)⟩, ⟨by repeat (with_reducible first | exact HB.out | apply pw_below_drewN | apply below_drew1)⟩⟩
         ·rw [if_neg c78] at H
          have c78b0 : decide (x20_2 < a2) = false := decide_eq_false c78
          clear c78
          (first | rw [c78b0] | (simp only [i64_w, i32_w]; rw [c78b0]) | skip)
          have H' := Aside0.mk H
          clear H
          go_wp2
          go_meet
          case rel => exact ⟨_, (false), (by first | rfl | (simp; done) | (simp [*]; done)), H', ⟨by have := HJ59.out; have := HK2.out; first | omega | exact Nat.le_refl _⟩, ⟨by (with_reducible repeat (first | apply Kd.R_alloc | apply Kd.R_drewN | apply Kd.R_drew)); exact HO_0.out⟩, ⟨by repeat (first | (with_reducible first | exact HK.out | apply Kept.alloc | apply Kept.drewN | apply Kept.drew) | exact HK.out)⟩, ⟨by repeat (with_reducible first | exact HB.out | apply pw_below_drewN | apply below_drew1)⟩⟩
        case rest =>
         as_aux_lemma =>
         clear HC77
         try clear c1; try clear c2; try clear p2; try clear q2; try clear hx2; try clear c3; try clear c4; try clear c5; try clear p5; try clear q5; try clear hx5; try clear hf5; try clear c6; try clear c6b0; try clear c6b1; try clear p6; try clear c7; try clear c7b0; try clear c9; try clear c9b0; try clear c10; try clear c10b0; try clear c11; try clear c11b0; try clear c12; try clear c12b0; try clear c14; try clear c14b0; try clear c21; try clear c21b0; try clear p21; try clear q21; try clear hx21; try clear p22; try clear q22; try clear hx22; try clear c23; try clear c23b0; try clear c24; try clear c24b0; try clear c25; try clear c25b0; try clear c26; try clear c26b0; try clear c27; try clear p27; try clear q27; try clear hx27; try clear hf27; try clear c28; try clear p28; try clear q28; try clear hx28; try clear hf28; try clear c31; try clear c32; try clear c33; try clear c33b0; try clear c33b1; try clear c34; try clear c34b0; try clear c35; try clear c35b0; try clear c36; try clear c36b0; try clear c38; try clear c38b0; try clear c39; try clear c39b0; try clear c41; try clear c41b0; try clear c48; try clear c48b0; try clear c50; try clear c50b0; try clear c51; try clear c51b0; try clear c52; try clear c52b0; try clear c53; try clear c53b0; try clear c54; try clear p54; try clear q54; try clear hx54; try clear hf54; try clear c55; try clear p55; try clear q55; try clear hx55; try clear hf55; try clear c58; try clear c59; try clear c61; try clear c61b0; try clear c62; try clear c62b0; try clear c64; try clear c64b0; try clear p64; try clear c65; try clear c65b0; try clear c67; try clear c67b0; try clear c68; try clear c68b0; try clear c70; try clear c70b0; try clear c78; try clear c78b0; try clear hx213_0; try clear hx213_1; try clear hx213_2; try clear hx213_3; try clear hx214_0; try clear hx214_1; try clear hx214_2; try clear hx214_3; try clear hx216_0; try clear hx216_1; try clear hx216_2; try clear hx216_3; try clear hx217_0; try clear hx217_1; try clear hx217_2; try clear hx217_3; try clear hx220_0; try clear hx220_1; try clear hx220_2; try clear hx220_3; try clear hx221_0; try clear hx221_1; try clear hx221_2; try clear hx221_3; try clear hx223_0; try clear hx223_1; try clear hx223_2; try clear hx223_3; try clear hx224_0; try clear hx224_1; try clear hx224_2; try clear hx224_3; try clear hx227_0; try clear hx227_1; try clear hx227_2; try clear hx227_3; try clear hx228_0; try clear hx228_1; try clear hx228_2; try clear hx228_3; try clear hx27_0; try clear hx27_1; try clear hx27_2; try clear hx27_3; try clear hx28_0; try clear hx28_1; try clear hx28_2; try clear hx28_3; try clear hx54_0; try clear hx54_1; try clear hx54_2; try clear hx54_3; try clear hx55_0; try clear hx55_1; try clear hx55_2; try clear hx55_3; try clear p2; try clear p21; try clear p213; try clear p214; try clear p216; try clear p217; try clear p22; try clear p220; try clear p221; try clear p223; try clear p224; try clear p227; try clear p228; try clear p27; try clear p28; try clear p5; try clear p54; try clear p55; try clear p6; try clear q2; try clear q21; try clear q213; try clear q214; try clear q216; try clear q217; try clear q22; try clear q220; try clear q221; try clear q223; try clear q224; try clear q227; try clear q228; try clear q27; try clear q28; try clear q5; try clear q54; try clear q55
         obtain ⟨kq, x185_76, rfl, HA, HJ76, HO_0, HK, HB⟩ := hcut
         cases kq with
         | zero => exact absurd HA.out (by simp [api_Turn_107.j6])
         | succ kj76 =>
          have H := HA.out
          clear HA
          simp only [api_Turn_107.j6] at H
          have HC79 := Aside0.mk H
          clear H
          go_upto_if 185 with (fail)
          go_cut [] (fun wc => ∃ (kq : Nat) (x0_78 : List (S65)), Aside0 (api_Turn_107.j7 kq x0_78 a1 a3 a4 gm_ x20_2 (wrap64 (gn_ - x20_2)) = some r) ∧ Aside0 (kq ≤ kj76) ∧ Aside0 (Kd.R k65 65 wc w0.heap.size (fun k_ => (P0_ k_ ∨ w.heap.size ≤ k_)) u9000_ x0_78) ∧ Aside0 (Kept w wc (fun k_ => P0_ k_)) ∧ Aside0 (Below w0.heap.size w0 wc))
          case first =>
           have H := HC79.out
           clear HC79
           by_cases c80 : x185_76 = true
           ·subst c80
            rw [if_pos rfl] at H; try dsimp only at H
            replace H := Option.bind_eq_some_iff.mp H
            obtain ⟨t230, A810, H⟩ := H
            try dsimp only at H
            have A81 := Aside0.mk A810
            clear A810
            have H' := Aside0.mk H
            clear H
            obtain ⟨Ao82, co82, eo82⟩ := Kd.R_slice HO_0.out
            subst eo82
            go_wp2_with (first | ((with_reducible refine gate_callee (f := 108) rfl ?_); refine goesL_ (some 191) rfl rfl Try.func108 (by kernel_rfl) rfl #[.slice Ao82 l0.length co82, .int .i64 x20_2, .int .i64 a2, .int .i64 (wrap64 (gn_ - x20_2)), .func (.func 79) #[] #[]] rfl (by (try simp only [List.map_toArray, List.map_cons, List.map_nil]); first | done | rfl | (simp only [List.length_drop, List.length_take]; rfl)) ?_; (with_reducible refine (api_Turn_108.calls kj76 (fun k_ => some k_ = (.slice Ao82 l0.length co82 : Value).ownBlock) (.slice Ao82 l0.length co82) l0 x20_2 a2 (wrap64 (gn_ - x20_2)) a4 t230 w0 _ ?side1 ?side2 A81.out).mono ?_); (case side1 => repeat (first | (with_reducible first | exact HB.out | apply below_alloc | apply pw_below_drewN | apply below_drew1) | exact HB.out)); (case side2 => exact Kd.R_tight rfl HO_0.out); rintro e w83 ⟨rfl, hy0, hb, hkp⟩; refine ⟨_, rfl, ?_⟩; replace HK := Aside0.mk (Kept.then_ (S := (fun k_ => P0_ k_)) (by repeat (first | (with_reducible first | exact HK.out | apply Kept.alloc | apply Kept.drewN | apply Kept.drew) | exact HK.out)) hkp (fun k_ hs_ => (fun e_ => (HO_0.out.1 k_ e_.symm)) hs_)); replace HO_0 := Aside0.mk (Kd.R_reok rfl hy0 (fun k_ e_ => HO_0.out.1 k_ e_)); replace HB := Aside0.mk (hb); (try clear hb); (try clear hkp); (try clear hy0)))
            go_meet
            case rel => exact ⟨_, (t230), H', ⟨by have := HJ59.out; have := HK2.out; have := HJ76.out; first | omega | exact Nat.le_refl _⟩, ⟨by (with_reducible repeat (first | apply Kd.R_alloc | apply Kd.R_drewN | apply Kd.R_drew)); exact HO_0.out⟩, ⟨by repeat (first | (with_reducible first | exact HK.out | apply Kept.alloc | apply Kept.drewN | apply Kept.drew) | exact HK.out)⟩, ⟨by repeat (with_reducible first | exact HB.out | apply pw_below_drewN | apply below_drew1)⟩⟩
           ·replace c80 := Bool.eq_false_iff.mpr c80
            subst c80
            rw [if_neg (show ¬ (false = true) by decide)] at H; try dsimp only at H
            have H' := Aside0.mk H
            clear H
            go_wp2
            go_meet
            case rel => exact ⟨_, (l0), H', ⟨by have := HJ59.out; have := HK2.out; have := HJ76.out; first | omega | exact Nat.le_refl _⟩, ⟨by (with_reducible repeat (first | apply Kd.R_alloc | apply Kd.R_drewN | apply Kd.R_drew)); exact HO_0.out⟩, ⟨by repeat (first | (with_reducible first | exact HK.out | apply Kept.alloc | apply Kept.drewN | apply Kept.drew) | exact HK.out)⟩, ⟨by repeat (with_reducible first | exact HB.out | apply pw_below_drewN | apply below_drew1)⟩⟩
          case rest =>
           as_aux_lemma =>
           clear HC79
           try clear c1; try clear c2; try clear p2; try clear q2; try clear hx2; try clear c3; try clear c4; try clear c5; try clear p5; try clear q5; try clear hx5; try clear hf5; try clear c6; try clear c6b0; try clear c6b1; try clear p6; try clear c7; try clear c7b0; try clear c8; try clear c9; try clear c9b0; try clear c10; try clear c10b0; try clear c11; try clear c11b0; try clear c12; try clear c12b0; try clear c14; try clear c14b0; try clear c21; try clear c21b0; try clear p21; try clear q21; try clear hx21; try clear p22; try clear q22; try clear hx22; try clear c23; try clear c23b0; try clear c24; try clear c24b0; try clear c25; try clear c25b0; try clear c26; try clear c26b0; try clear c27; try clear p27; try clear q27; try clear hx27; try clear hf27; try clear c28; try clear p28; try clear q28; try clear hx28; try clear hf28; try clear c31; try clear c32; try clear c33; try clear c33b0; try clear c33b1; try clear c34; try clear c34b0; try clear c35; try clear c35b0; try clear c36; try clear c36b0; try clear c38; try clear c38b0; try clear c39; try clear c39b0; try clear c41; try clear c41b0; try clear c48; try clear c48b0; try clear c50; try clear c50b0; try clear c51; try clear c51b0; try clear c52; try clear c52b0; try clear c53; try clear c53b0; try clear c54; try clear p54; try clear q54; try clear hx54; try clear hf54; try clear c55; try clear p55; try clear q55; try clear hx55; try clear hf55; try clear c58; try clear c59; try clear c61; try clear c61b0; try clear c62; try clear c62b0; try clear c64; try clear c64b0; try clear p64; try clear c65; try clear c65b0; try clear c67; try clear c67b0; try clear c68; try clear c68b0; try clear c70; try clear c70b0; try clear c78; try clear c78b0; try clear c79; try clear c80; try clear hx213_0; try clear hx213_1; try clear hx213_2; try clear hx213_3; try clear hx214_0; try clear hx214_1; try clear hx214_2; try clear hx214_3; try clear hx216_0; try clear hx216_1; try clear hx216_2; try clear hx216_3; try clear hx217_0; try clear hx217_1; try clear hx217_2; try clear hx217_3; try clear hx220_0; try clear hx220_1; try clear hx220_2; try clear hx220_3; try clear hx221_0; try clear hx221_1; try clear hx221_2; try clear hx221_3; try clear hx223_0; try clear hx223_1; try clear hx223_2; try clear hx223_3; try clear hx224_0; try clear hx224_1; try clear hx224_2; try clear hx224_3; try clear hx227_0; try clear hx227_1; try clear hx227_2; try clear hx227_3; try clear hx228_0; try clear hx228_1; try clear hx228_2; try clear hx228_3; try clear hx27_0; try clear hx27_1; try clear hx27_2; try clear hx27_3; try clear hx28_0; try clear hx28_1; try clear hx28_2; try clear hx28_3; try clear hx54_0; try clear hx54_1; try clear hx54_2; try clear hx54_3; try clear hx55_0; try clear hx55_1; try clear hx55_2; try clear hx55_3; try clear p2; try clear p21; try clear p213; try clear p214; try clear p216; try clear p217; try clear p22; try clear p220; try clear p221; try clear p223; try clear p224; try clear p227; try clear p228; try clear p27; try clear p28; try clear p5; try clear p54; try clear p55; try clear p6; try clear p64; try clear q2; try clear q21; try clear q213; try clear q214; try clear q216; try clear q217; try clear q22; try clear q220; try clear q221; try clear q223; try clear q224; try clear q227; try clear q228; try clear q27; try clear q28; try clear q5; try clear q54; try clear q55
           obtain ⟨kq, x0_78, HA, HJ78, HO_0, HK, HB⟩ := hcut
           cases kq with
           | zero => exact absurd HA.out (by simp [api_Turn_107.j7])
           | succ kj78 =>
            have H := HA.out
            clear HA
            simp only [api_Turn_107.j7] at H
            have HC84 := Aside0.mk H
            clear H
            go_upto_region 41 with (fail)
            go_cut [199] (fun v199 wc => ∃ (kq : Nat) (x199_83 : Bool), v199 = .bool x199_83 ∧ Aside0 (api_Turn_107.j8 kq x0_78 a1 a3 a4 gm_ x20_2 (wrap64 (gn_ - x20_2)) x199_83 = some r) ∧ Aside0 (kq ≤ kj78) ∧ Aside0 (Kd.R k65 65 wc w0.heap.size (fun k_ => (P0_ k_ ∨ w.heap.size ≤ k_)) u9000_ x0_78) ∧ Aside0 (Kept w wc (fun k_ => P0_ k_)) ∧ Aside0 (Below w0.heap.size w0 wc))
            case first =>
             have H := HC84.out
             clear HC84
             by_cases c85 : a1 < x20_2
             ·rw [if_pos c85] at H
              have c85b0 : decide (a1 < x20_2) = true := decide_eq_true c85
              clear c85
              (first | rw [c85b0] | (simp only [i64_w, i32_w]; rw [c85b0]) | skip)
              have H' := Aside0.mk H
              clear H
              go_wp2
              go_meet
              case rel => exact ⟨_, (decide (x20_2 < gm_)), (by first | rfl | (simp; done) | (simp [*]; done)), H', ⟨by have := HJ59.out; have := HK2.out; have := HJ76.out; have := HJ78.out; first | omega | exact Nat.le_refl _⟩, ⟨by (with_reducible repeat (first | apply Kd.R_alloc | apply Kd.R_drewN | apply Kd.R_drew)); exact HO_0.out⟩, ⟨by repeat (first | (with_reducible first | exact HK.out | apply Kept.alloc | apply Kept.drewN | apply Kept.drew) | exact HK.out)⟩, ⟨by repeat (with_reducible first | exact HB.out | apply pw_below_drewN | apply below_drew1)⟩⟩
             ·rw [if_neg c85] at H
              have c85b0 : decide (a1 < x20_2) = false := decide_eq_false c85
              clear c85
              (first | rw [c85b0] | (simp only [i64_w, i32_w]; rw [c85b0]) | skip)
              have H' := Aside0.mk H
              clear H
              go_wp2
              go_meet
              case rel => exact ⟨_, (false), (by first | rfl | (simp; done) | (simp [*]; done)), H', ⟨by have := HJ59.out; have := HK2.out; have := HJ76.out; have := HJ78.out; first | omega | exact Nat.le_refl _⟩, ⟨by (with_reducible repeat (first | apply Kd.R_alloc | apply Kd.R_drewN | apply Kd.R_drew)); exact HO_0.out⟩, ⟨by repeat (first | (with_reducible first | exact HK.out | apply Kept.alloc | apply Kept.drewN | apply Kept.drew) | exact HK.out)⟩, ⟨by repeat (with_reducible first | exact HB.out | apply pw_below_drewN | apply below_drew1)⟩⟩
            case rest =>
             as_aux_lemma =>
             clear HC84
             try clear c1; try clear c2; try clear p2; try clear q2; try clear hx2; try clear c3; try clear c4; try clear c5; try clear p5; try clear q5; try clear hx5; try clear hf5; try clear c6; try clear c6b0; try clear c6b1; try clear p6; try clear c7; try clear c7b0; try clear c8; try clear c9; try clear c9b0; try clear c10; try clear c10b0; try clear c11; try clear c11b0; try clear c12; try clear c12b0; try clear c14; try clear c14b0; try clear c21; try clear c21b0; try clear p21; try clear q21; try clear hx21; try clear p22; try clear q22; try clear hx22; try clear c23; try clear c23b0; try clear c24; try clear c24b0; try clear c25; try clear c25b0; try clear c26; try clear c26b0; try clear c27; try clear p27; try clear q27; try clear hx27; try clear hf27; try clear c28; try clear p28; try clear q28; try clear hx28; try clear hf28; try clear c31; try clear c32; try clear c33; try clear c33b0; try clear c33b1; try clear c34; try clear c34b0; try clear c35; try clear c35b0; try clear c36; try clear c36b0; try clear c38; try clear c38b0; try clear c39; try clear c39b0; try clear c41; try clear c41b0; try clear c48; try clear c48b0; try clear c50; try clear c50b0; try clear c51; try clear c51b0; try clear c52; try clear c52b0; try clear c53; try clear c53b0; try clear c54; try clear p54; try clear q54; try clear hx54; try clear hf54; try clear c55; try clear p55; try clear q55; try clear hx55; try clear hf55; try clear c58; try clear c59; try clear c61; try clear c61b0; try clear c62; try clear c62b0; try clear c64; try clear c64b0; try clear p64; try clear c65; try clear c65b0; try clear c67; try clear c67b0; try clear c68; try clear c68b0; try clear c70; try clear c70b0; try clear c78; try clear c78b0; try clear c79; try clear c80; try clear c85; try clear c85b0; try clear hx213_0; try clear hx213_1; try clear hx213_2; try clear hx213_3; try clear hx214_0; try clear hx214_1; try clear hx214_2; try clear hx214_3; try clear hx216_0; try clear hx216_1; try clear hx216_2; try clear hx216_3; try clear hx217_0; try clear hx217_1; try clear hx217_2; try clear hx217_3; try clear hx220_0; try clear hx220_1; try clear hx220_2; try clear hx220_3; try clear hx221_0; try clear hx221_1; try clear hx221_2; try clear hx221_3; try clear hx223_0; try clear hx223_1; try clear hx223_2; try clear hx223_3; try clear hx224_0; try clear hx224_1; try clear hx224_2; try clear hx224_3; try clear hx227_0; try clear hx227_1; try clear hx227_2; try clear hx227_3; try clear hx228_0; try clear hx228_1; try clear hx228_2; try clear hx228_3; try clear hx27_0; try clear hx27_1; try clear hx27_2; try clear hx27_3; try clear hx28_0; try clear hx28_1; try clear hx28_2; try clear hx28_3; try clear hx54_0; try clear hx54_1; try clear hx54_2; try clear hx54_3; try clear hx55_0; try clear hx55_1; try clear hx55_2; try clear hx55_3; try clear p2; try clear p21; try clear p213; try clear p214; try clear p216; try clear p217; try clear p22; try clear p220; try clear p221; try clear p223; try clear p224; try clear p227; try clear p228; try clear p27; try clear p28; try clear p5; try clear p54; try clear p55; try clear p6; try clear p64; try clear q2; try clear q21; try clear q213; try clear q214; try clear q216; try clear q217; try clear q22; try clear q220; try clear q221; try clear q223; try clear q224; try clear q227; try clear q228; try clear q27; try clear q28; try clear q5; try clear q54; try clear q55
             obtain ⟨kq, x199_83, rfl, HA, HJ83, HO_0, HK, HB⟩ := hcut
             cases kq with
             | zero => exact absurd HA.out (by simp [api_Turn_107.j8])
             | succ kj83 =>
              have H := HA.out
              clear HA
              simp only [api_Turn_107.j8] at H
              have HC86 := Aside0.mk H
              clear H
              go_upto_if 199 with (fail)
              go_cut [] (fun wc => ∃ (kq : Nat) (x0_85 : List (S65)), Aside0 (api_Turn_107.j9 kq x0_85 a3 a4 gm_ (wrap64 (gn_ - x20_2)) = some r) ∧ Aside0 (kq ≤ kj83) ∧ Aside0 (Kd.R k65 65 wc w0.heap.size (fun k_ => (P0_ k_ ∨ w.heap.size ≤ k_)) u9000_ x0_85) ∧ Aside0 (Kept w wc (fun k_ => P0_ k_)) ∧ Aside0 (Below w0.heap.size w0 wc))
              case first =>
               have H := HC86.out
               clear HC86
               by_cases c87 : x199_83 = true
               ·subst c87
                rw [if_pos rfl] at H; try dsimp only at H
                replace H := Option.bind_eq_some_iff.mp H
                obtain ⟨t231, A880, H⟩ := H
                try dsimp only at H
                have A88 := Aside0.mk A880
                clear A880
                have H' := Aside0.mk H
                clear H
                obtain ⟨Ao89, co89, eo89⟩ := Kd.R_slice HO_0.out
                subst eo89
                go_wp2_with (first | ((with_reducible refine gate_callee (f := 107) rfl ?_); refine goesL_ (some 205) rfl rfl Try.func107 (by kernel_rfl) rfl #[.slice Ao89 x0_78.length co89, .int .i64 a1, .int .i64 x20_2, .int .i64 gm_, .func (.func 79) #[] #[]] rfl (by (try simp only [List.map_toArray, List.map_cons, List.map_nil]); first | done | rfl | (simp only [List.length_drop, List.length_take]; rfl)) ?_; (with_reducible refine (ih kj83 (by have := HJ59.out; have := HK2.out; have := HJ76.out; have := HJ78.out; have := HJ83.out; omega) (fun k_ => some k_ = (.slice Ao89 x0_78.length co89 : Value).ownBlock) (.slice Ao89 x0_78.length co89) x0_78 a1 x20_2 gm_ a4 t231 w0 _ ?side1 ?side2 A88.out).mono ?_); (case side1 => repeat (first | (with_reducible first | exact HB.out | apply below_alloc | apply pw_below_drewN | apply below_drew1) | exact HB.out)); (case side2 => exact Kd.R_tight rfl HO_0.out); rintro e w90 ⟨rfl, hy0, hb, hkp⟩; refine ⟨_, rfl, ?_⟩; replace HK := Aside0.mk (Kept.then_ (S := (fun k_ => P0_ k_)) (by repeat (first | (with_reducible first | exact HK.out | apply Kept.alloc | apply Kept.drewN | apply Kept.drew) | exact HK.out)) hkp (fun k_ hs_ => (fun e_ => (HO_0.out.1 k_ e_.symm)) hs_)); replace HO_0 := Aside0.mk (Kd.R_reok rfl hy0 (fun k_ e_ => HO_0.out.1 k_ e_)); replace HB := Aside0.mk (hb); (try clear hb); (try clear hkp); (try clear hy0)))
                go_meet
                case rel => exact ⟨_, (t231), H', ⟨by have := HJ59.out; have := HK2.out; have := HJ76.out; have := HJ78.out; have := HJ83.out; first | omega | exact Nat.le_refl _⟩, ⟨by (with_reducible repeat (first | apply Kd.R_alloc | apply Kd.R_drewN | apply Kd.R_drew)); exact HO_0.out⟩, ⟨by repeat (first | (with_reducible first | exact HK.out | apply Kept.alloc | apply Kept.drewN | apply Kept.drew) | exact HK.out)⟩, ⟨by repeat (with_reducible first | exact HB.out | apply pw_below_drewN | apply below_drew1)⟩⟩
               ·replace c87 := Bool.eq_false_iff.mpr c87
                subst c87
                rw [if_neg (show ¬ (false = true) by decide)] at H; try dsimp only at H
                have H' := Aside0.mk H
                clear H
                go_wp2
                go_meet
                case rel => exact ⟨_, (x0_78), H', ⟨by have := HJ59.out; have := HK2.out; have := HJ76.out; have := HJ78.out; have := HJ83.out; first | omega | exact Nat.le_refl _⟩, ⟨by (with_reducible repeat (first | apply Kd.R_alloc | apply Kd.R_drewN | apply Kd.R_drew)); exact HO_0.out⟩, ⟨by repeat (first | (with_reducible first | exact HK.out | apply Kept.alloc | apply Kept.drewN | apply Kept.drew) | exact HK.out)⟩, ⟨by repeat (with_reducible first | exact HB.out | apply pw_below_drewN | apply below_drew1)⟩⟩
              case rest =>
               as_aux_lemma =>
               clear HC86
               try clear c1; try clear c2; try clear p2; try clear q2; try clear hx2; try clear c3; try clear c4; try clear c5; try clear p5; try clear q5; try clear hx5; try clear hf5; try clear c6; try clear c6b0; try clear c6b1; try clear p6; try clear c7; try clear c7b0; try clear c8; try clear c9; try clear c9b0; try clear c10; try clear c10b0; try clear c11; try clear c11b0; try clear c12; try clear c12b0; try clear c14; try clear c14b0; try clear c21; try clear c21b0; try clear p21; try clear q21; try clear hx21; try clear p22; try clear q22; try clear hx22; try clear c23; try clear c23b0; try clear c24; try clear c24b0; try clear c25; try clear c25b0; try clear c26; try clear c26b0; try clear c27; try clear p27; try clear q27; try clear hx27; try clear hf27; try clear c28; try clear p28; try clear q28; try clear hx28; try clear hf28; try clear c31; try clear c32; try clear c33; try clear c33b0; try clear c33b1; try clear c34; try clear c34b0; try clear c35; try clear c35b0; try clear c36; try clear c36b0; try clear c38; try clear c38b0; try clear c39; try clear c39b0; try clear c41; try clear c41b0; try clear c48; try clear c48b0; try clear c50; try clear c50b0; try clear c51; try clear c51b0; try clear c52; try clear c52b0; try clear c53; try clear c53b0; try clear c54; try clear p54; try clear q54; try clear hx54; try clear hf54; try clear c55; try clear p55; try clear q55; try clear hx55; try clear hf55; try clear c58; try clear c59; try clear c61; try clear c61b0; try clear c62; try clear c62b0; try clear c64; try clear c64b0; try clear p64; try clear c65; try clear c65b0; try clear c67; try clear c67b0; try clear c68; try clear c68b0; try clear c70; try clear c70b0; try clear c78; try clear c78b0; try clear c79; try clear c80; try clear c85; try clear c85b0; try clear c87; try clear hx213_0; try clear hx213_1; try clear hx213_2; try clear hx213_3; try clear hx214_0; try clear hx214_1; try clear hx214_2; try clear hx214_3; try clear hx216_0; try clear hx216_1; try clear hx216_2; try clear hx216_3; try clear hx217_0; try clear hx217_1; try clear hx217_2; try clear hx217_3; try clear hx220_0; try clear hx220_1; try clear hx220_2; try clear hx220_3; try clear hx221_0; try clear hx221_1; try clear hx221_2; try clear hx221_3; try clear hx223_0; try clear hx223_1; try clear hx223_2; try clear hx223_3; try clear hx224_0; try clear hx224_1; try clear hx224_2; try clear hx224_3; try clear hx227_0; try clear hx227_1; try clear hx227_2; try clear hx227_3; try clear hx228_0; try clear hx228_1; try clear hx228_2; try clear hx228_3; try clear hx27_0; try clear hx27_1; try clear hx27_2; try clear hx27_3; try clear hx28_0; try clear hx28_1; try clear hx28_2; try clear hx28_3; try clear hx54_0; try clear hx54_1; try clear hx54_2; try clear hx54_3; try clear hx55_0; try clear hx55_1; try clear hx55_2; try clear hx55_3; try clear p2; try clear p21; try clear p213; try clear p214; try clear p216; try clear p217; try clear p22; try clear p220; try clear p221; try clear p223; try clear p224; try clear p227; try clear p228; try clear p27; try clear p28; try clear p5; try clear p54; try clear p55; try clear p6; try clear p64; try clear q2; try clear q21; try clear q213; try clear q214; try clear q216; try clear q217; try clear q22; try clear q220; try clear q221; try clear q223; try clear q224; try clear q227; try clear q228; try clear q27; try clear q28; try clear q5; try clear q54; try clear q55
               obtain ⟨kq, x0_85, HA, HJ85, HO_0, HK, HB⟩ := hcut
               cases kq with
               | zero => exact absurd HA.out (by simp [api_Turn_107.j9])
               | succ kj85 =>
                have H := HA.out
                clear HA
                simp only [api_Turn_107.j9] at H
                by_cases c91 : gm_ < (wrap64 (gn_ - x20_2))
                ·rw [if_pos c91] at H
                 have c91b0 : decide (gm_ < (wrap64 (gn_ - x20_2))) = true := decide_eq_true c91
                 clear c91
                 by_cases c92 : (wrap64 (gn_ - x20_2)) < a3
                 ·rw [if_pos c92] at H
                  have c92b0 : decide ((wrap64 (gn_ - x20_2)) < a3) = true := decide_eq_true c92
                  clear c92
                  replace H := Option.bind_eq_some_iff.mp H
                  obtain ⟨t232, A930, H⟩ := H
                  try dsimp only at H
                  have A93 := Aside0.mk A930
                  clear A930
                  obtain rfl := Option.some.inj H
                  obtain ⟨Ao94, co94, eo94⟩ := Kd.R_slice HO_0.out
                  subst eo94
                  go_wp2_with (first | ((with_reducible refine gate_callee (f := 107) rfl ?_); refine goesL_ (some 219) rfl rfl Try.func107 (by kernel_rfl) rfl #[.slice Ao94 x0_85.length co94, .int .i64 gm_, .int .i64 (wrap64 (gn_ - x20_2)), .int .i64 a3, .func (.func 79) #[] #[]] rfl (by (try simp only [List.map_toArray, List.map_cons, List.map_nil]); first | done | rfl | (simp only [List.length_drop, List.length_take]; rfl)) ?_; (with_reducible refine (ih kj85 (by have := HJ59.out; have := HK2.out; have := HJ76.out; have := HJ78.out; have := HJ83.out; have := HJ85.out; omega) (fun k_ => some k_ = (.slice Ao94 x0_85.length co94 : Value).ownBlock) (.slice Ao94 x0_85.length co94) x0_85 gm_ (wrap64 (gn_ - x20_2)) a3 a4 t232 w0 _ ?side1 ?side2 A93.out).mono ?_); (case side1 => repeat (first | (with_reducible first | exact HB.out | apply below_alloc | apply pw_below_drewN | apply below_drew1) | exact HB.out)); (case side2 => exact Kd.R_tight rfl HO_0.out); rintro e w95 ⟨rfl, hy0, hb, hkp⟩; refine ⟨_, rfl, ?_⟩; replace HK := Aside0.mk (Kept.then_ (S := (fun k_ => P0_ k_)) (by repeat (first | (with_reducible first | exact HK.out | apply Kept.alloc | apply Kept.drewN | apply Kept.drew) | exact HK.out)) hkp (fun k_ hs_ => (fun e_ => (HO_0.out.1 k_ e_.symm)) hs_)); replace HO_0 := Aside0.mk (Kd.R_reok rfl hy0 (fun k_ e_ => HO_0.out.1 k_ e_)); replace HB := Aside0.mk (hb); (try clear hb); (try clear hkp); (try clear hy0)))
                  first | go_end0 | ((try simp only [Exit.inBlock, Exit.then]); refine bodyPost_ret (results_none rfl _ _ _) rfl ?_)
                  exact ⟨by first | rfl | (simp [errW_none, errW_some] <;> rfl) | (simp [*, errW_none, errW_some] <;> rfl), by (with_reducible repeat (first | apply Kd.R_alloc | apply Kd.R_drewN | apply Kd.R_drew)); exact HO_0.out, by repeat (with_reducible first | exact HB.out | apply pw_below_drewN | apply below_drew1), by repeat (first | (with_reducible first | exact HK.out | apply Kept.alloc | apply Kept.drewN | apply Kept.drew) | exact HK.out)⟩
                 ·rw [if_neg c92] at H
                  have c92b0 : decide ((wrap64 (gn_ - x20_2)) < a3) = false := decide_eq_false c92
                  clear c92
                  obtain rfl := Option.some.inj H
                  go_wp2
                  first | go_end0 | ((try simp only [Exit.inBlock, Exit.then]); refine bodyPost_ret (results_none rfl _ _ _) rfl ?_)
                  exact ⟨by first | rfl | (simp [errW_none, errW_some] <;> rfl) | (simp [*, errW_none, errW_some] <;> rfl), by (with_reducible repeat (first | apply Kd.R_alloc | apply Kd.R_drewN | apply Kd.R_drew)); exact HO_0.out, by repeat (with_reducible first | exact HB.out | apply pw_below_drewN | apply below_drew1), by repeat (first | (with_reducible first | exact HK.out | apply Kept.alloc | apply Kept.drewN | apply Kept.drew) | exact HK.out)⟩
                ·rw [if_neg c91] at H
                 have c91b0 : decide (gm_ < (wrap64 (gn_ - x20_2))) = false := decide_eq_false c91
                 clear c91
                 obtain rfl := Option.some.inj H
                 go_wp2
                 first | go_end0 | ((try simp only [Exit.inBlock, Exit.then]); refine bodyPost_ret (results_none rfl _ _ _) rfl ?_)
                 exact ⟨by first | rfl | (simp [errW_none, errW_some] <;> rfl) | (simp [*, errW_none, errW_some] <;> rfl), by (with_reducible repeat (first | apply Kd.R_alloc | apply Kd.R_drewN | apply Kd.R_drew)); exact HO_0.out, by repeat (with_reducible first | exact HB.out | apply pw_below_drewN | apply below_drew1), by repeat (first | (with_reducible first | exact HK.out | apply Kept.alloc | apply Kept.drewN | apply Kept.drew) | exact HK.out)⟩

end Go.Proofs.Ytcfpbmdndapeaaa.F
