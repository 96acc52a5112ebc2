-- Written by a program of this session (xprint.py), out of the translation and of contracts proved by hand.
import Derived.Test.YtofbkpdpgmjllaaF0
import Derived.Test.YtofbkpdpgmjllaaF3
import Derived.Test.YtofbkpdpgmjllaaF7
import Derived.Test.YtofbkpdpgmjllaaF8
import Derived.Test.YtofbkpdpgmjllaaF9
namespace Go.Proofs.Ytofbkpdpgmjllaa.F
open Go.RowKit Go.Proofs.YtofbkpdpgmjllaaV.PrintWords Go.Proofs.YtofbkpdpgmjllaaV.PrintLast Go.Proofs.YtofbkpdpgmjllaaV.PrintMore
attribute [local go_sem] max2_int min2_int max_two min_two max_three min_three max_four min_four   -- for this text's walks alone
set_option linter.unusedVariables false
set_option linter.unusedSimpArgs false

/-! ### watchmanref21_Send: function 11 -/
mutual
def watchmanref21_Send.j0 : Nat → Int → Int → List ByteArray → Bool → Int → List (S35) → Option (Int × (List (S35)) × Int × Int)
  | 0, _, _, _, _, _, _ => none
  | k + 1, x1, x2, x3, x34, x133000, x133001 => if x34 = true then (some (0, ([] : List (S35)), 0, 1)) else (watchmanref21_Send.l0 k x1 x2 x3 0 x133000 x133001)
def watchmanref21_Send.l0 : Nat → Int → Int → List ByteArray → Int → Int → List (S35) → Option (Int × (List (S35)) × Int × Int)
  | 0, _, _, _, _, _, _ => none
  | k + 1, x1, x2, x3, x11, x133000, x133001 => if x11 < (x3.length : Int) then (if 0 ≤ x11 then (if ((rdOf ByteArray.empty x3 x11).size : Int) > 2000 then (some (0, ([] : List (S35)), 0, 1)) else (watchmanref21_Send.l0 k x1 x2 x3 (wrap64 (x11 + 1)) x133000 x133001)) else (none)) else (if x133000 > (wrap64 (1000000000 - (x3.length : Int))) then (some (0, ([] : List (S35)), 0, 2)) else ((watchmanref21_Own.f x133001).bind fun t136 => (watchmanref21_Send.l1 k x1 x2 x3 0 0 x133000 t136)))
def watchmanref21_Send.l1 : Nat → Int → Int → List ByteArray → Int → Int → Int → List (S35) → Option (Int × (List (S35)) × Int × Int)
  | 0, _, _, _, _, _, _, _ => none
  | k + 1, x1, x2, x3, x13, x14, x140000, x140001 => if x14 < (x3.length : Int) then (watchmanref21_Send.l2 k x1 x2 x3 x13 x14 x140000 x140001) else (some (x140000, x140001, x13, 0))
def watchmanref21_Send.l2 : Nat → Int → Int → List ByteArray → Int → Int → Int → List (S35) → Option (Int × (List (S35)) × Int × Int)
  | 0, _, _, _, _, _, _, _ => none
  | k + 1, x1, x2, x3, x13, x14, x140000, x140001 => (watchmanref21_To.f k x140000 x140001 x2).bind fun t140 => (if (t140.length : Int) ≥ 20 then ((watchmanref21_To.f k x140000 x140001 x2).bind fun t143 => (if 0 < (t143.length : Int) then ((watchmanref21_without.f k x140001 ((rd_T35 t143 0).f0)).bind fun t147 => (watchmanref21_Send.l2 k x1 x2 x3 (wrap64 (x13 + 1)) x14 x140000 t147)) else (none))) else (if (x140001.length : Int) ≥ 200 then (watchmanref21_Send.l1 k x1 x2 x3 (wrap64 (x13 + 1)) (wrap64 (x14 + 1)) (wrap64 (x140000 + 1)) x140001) else (if 0 ≤ x14 then (if x14 < (x3.length : Int) then (if x140001.length < 3518437208883 then (watchmanref21_Send.l1 k x1 x2 x3 x13 (wrap64 (x14 + 1)) (wrap64 (x140000 + 1)) (x140001 ++ [(⟨x140000, x1, x2, rdOf ByteArray.empty x3 x14⟩ : S35)])) else (none)) else (none)) else (none))))
end
def watchmanref21_Send.f (k : Nat) (a0_0 : Int) (l0_1 : List (S35)) (a1 : Int) (a2 : Int) (l3 : List ByteArray) : Option (Int × (List (S35)) × Int × Int) := (watchmanref21_Is.f k a0_0 l0_1).bind fun t134 => (if t134 = true then (if a1 < 0 then (watchmanref21_Send.j0 k a1 a2 l3 true a0_0 l0_1) else (if a1 > 20 then (watchmanref21_Send.j0 k a1 a2 l3 true a0_0 l0_1) else (if a2 < 0 then (watchmanref21_Send.j0 k a1 a2 l3 true a0_0 l0_1) else (watchmanref21_Send.j0 k a1 a2 l3 (decide (a2 > 20)) a0_0 l0_1)))) else (watchmanref21_Send.j0 k a1 a2 l3 true a0_0 l0_1))
theorem watchmanref21_Send.mono_l : ∀ k, (∀ y0 y1 y2 y3 y4 y5, LeO (watchmanref21_Send.j0 k y0 y1 y2 y3 y4 y5) (watchmanref21_Send.j0 (k + 1) y0 y1 y2 y3 y4 y5)) ∧ (∀ y0 y1 y2 y3 y4 y5, LeO (watchmanref21_Send.l0 k y0 y1 y2 y3 y4 y5) (watchmanref21_Send.l0 (k + 1) y0 y1 y2 y3 y4 y5)) ∧ (∀ y0 y1 y2 y3 y4 y5 y6, LeO (watchmanref21_Send.l1 k y0 y1 y2 y3 y4 y5 y6) (watchmanref21_Send.l1 (k + 1) y0 y1 y2 y3 y4 y5 y6)) ∧ (∀ y0 y1 y2 y3 y4 y5 y6, LeO (watchmanref21_Send.l2 k y0 y1 y2 y3 y4 y5 y6) (watchmanref21_Send.l2 (k + 1) y0 y1 y2 y3 y4 y5 y6))
  | 0 => ⟨fun _ _ _ _ _ _ r h => by simp [watchmanref21_Send.j0] at h, fun _ _ _ _ _ _ r h => by simp [watchmanref21_Send.l0] at h, fun _ _ _ _ _ _ _ r h => by simp [watchmanref21_Send.l1] at h, fun _ _ _ _ _ _ _ r h => by simp [watchmanref21_Send.l2] at h⟩
  | k + 1 => by
    obtain ⟨ih0, ih1, ih2, ih3⟩ := watchmanref21_Send.mono_l k
    refine ⟨?_, ?_, ?_, ?_⟩
    · intro y0 y1 y2 y3 y4 y5
      unfold watchmanref21_Send.j0
      repeat' first
      | (with_reducible exact ih0 _ _ _ _ _ _)
      | (with_reducible exact ih1 _ _ _ _ _ _)
      | (with_reducible exact ih2 _ _ _ _ _ _ _)
      | (with_reducible exact ih3 _ _ _ _ _ _ _)
      | (with_reducible exact watchmanref21_Is.mono _ _ _)
      | (with_reducible exact watchmanref21_To.mono _ _ _ _)
      | (with_reducible exact watchmanref21_without.mono _ _ _)
      | (with_reducible exact LeO.refl _)
      | (with_reducible exact LeO.none _)
      | (with_reducible refine LeO.ite ?_ ?_)
      | (with_reducible refine LeO.bind ?_ (fun _ => ?_))
      | exact ih0 _ _ _ _ _ _
      | exact ih1 _ _ _ _ _ _
      | exact ih2 _ _ _ _ _ _ _
      | exact ih3 _ _ _ _ _ _ _
      | exact watchmanref21_Is.mono _ _ _
      | exact watchmanref21_To.mono _ _ _ _
      | exact watchmanref21_without.mono _ _ _
      | exact LeO.none _
      | refine LeO.ite ?_ ?_
      | refine LeO.bind ?_ (fun _ => ?_)
    · intro y0 y1 y2 y3 y4 y5
      unfold watchmanref21_Send.l0
      repeat' first
      | (with_reducible exact ih0 _ _ _ _ _ _)
      | (with_reducible exact ih1 _ _ _ _ _ _)
      | (with_reducible exact ih2 _ _ _ _ _ _ _)
      | (with_reducible exact ih3 _ _ _ _ _ _ _)
      | (with_reducible exact watchmanref21_Is.mono _ _ _)
      | (with_reducible exact watchmanref21_To.mono _ _ _ _)
      | (with_reducible exact watchmanref21_without.mono _ _ _)
      | (with_reducible exact LeO.refl _)
      | (with_reducible exact LeO.none _)
      | (with_reducible refine LeO.ite ?_ ?_)
      | (with_reducible refine LeO.bind ?_ (fun _ => ?_))
      | exact ih0 _ _ _ _ _ _
      | exact ih1 _ _ _ _ _ _
      | exact ih2 _ _ _ _ _ _ _
      | exact ih3 _ _ _ _ _ _ _
      | exact watchmanref21_Is.mono _ _ _
      | exact watchmanref21_To.mono _ _ _ _
      | exact watchmanref21_without.mono _ _ _
      | exact LeO.none _
      | refine LeO.ite ?_ ?_
      | refine LeO.bind ?_ (fun _ => ?_)
    · intro y0 y1 y2 y3 y4 y5 y6
      unfold watchmanref21_Send.l1
      repeat' first
      | (with_reducible exact ih0 _ _ _ _ _ _)
      | (with_reducible exact ih1 _ _ _ _ _ _)
      | (with_reducible exact ih2 _ _ _ _ _ _ _)
      | (with_reducible exact ih3 _ _ _ _ _ _ _)
      | (with_reducible exact watchmanref21_Is.mono _ _ _)
      | (with_reducible exact watchmanref21_To.mono _ _ _ _)
      | (with_reducible exact watchmanref21_without.mono _ _ _)
      | (with_reducible exact LeO.refl _)
      | (with_reducible exact LeO.none _)
      | (with_reducible refine LeO.ite ?_ ?_)
      | (with_reducible refine LeO.bind ?_ (fun _ => ?_))
      | exact ih0 _ _ _ _ _ _
      | exact ih1 _ _ _ _ _ _
      | exact ih2 _ _ _ _ _ _ _
      | exact ih3 _ _ _ _ _ _ _
      | exact watchmanref21_Is.mono _ _ _
      | exact watchmanref21_To.mono _ _ _ _
      | exact watchmanref21_without.mono _ _ _
      | exact LeO.none _
      | refine LeO.ite ?_ ?_
      | refine LeO.bind ?_ (fun _ => ?_)
    · intro y0 y1 y2 y3 y4 y5 y6
      unfold watchmanref21_Send.l2
      repeat' first
      | (with_reducible exact ih0 _ _ _ _ _ _)
      | (with_reducible exact ih1 _ _ _ _ _ _)
      | (with_reducible exact ih2 _ _ _ _ _ _ _)
      | (with_reducible exact ih3 _ _ _ _ _ _ _)
      | (with_reducible exact watchmanref21_Is.mono _ _ _)
      | (with_reducible exact watchmanref21_To.mono _ _ _ _)
      | (with_reducible exact watchmanref21_without.mono _ _ _)
      | (with_reducible exact LeO.refl _)
      | (with_reducible exact LeO.none _)
      | (with_reducible refine LeO.ite ?_ ?_)
      | (with_reducible refine LeO.bind ?_ (fun _ => ?_))
      | exact ih0 _ _ _ _ _ _
      | exact ih1 _ _ _ _ _ _
      | exact ih2 _ _ _ _ _ _ _
      | exact ih3 _ _ _ _ _ _ _
      | exact watchmanref21_Is.mono _ _ _
      | exact watchmanref21_To.mono _ _ _ _
      | exact watchmanref21_without.mono _ _ _
      | exact LeO.none _
      | refine LeO.ite ?_ ?_
      | refine LeO.bind ?_ (fun _ => ?_)
theorem watchmanref21_Send.mono : ∀ a0 a1 a2 a3 a4 k, LeO (watchmanref21_Send.f k a0 a1 a2 a3 a4) (watchmanref21_Send.f (k + 1) a0 a1 a2 a3 a4) := by
  intro a0 a1 a2 a3 a4 k
  obtain ⟨ih0, ih1, ih2, ih3⟩ := watchmanref21_Send.mono_l k
  unfold watchmanref21_Send.f
  repeat' first
      | (with_reducible exact ih0 _ _ _ _ _ _)
      | (with_reducible exact ih1 _ _ _ _ _ _)
      | (with_reducible exact ih2 _ _ _ _ _ _ _)
      | (with_reducible exact ih3 _ _ _ _ _ _ _)
      | (with_reducible exact watchmanref21_Is.mono _ _ _)
      | (with_reducible exact watchmanref21_To.mono _ _ _ _)
      | (with_reducible exact watchmanref21_without.mono _ _ _)
      | (with_reducible exact LeO.refl _)
      | (with_reducible exact LeO.none _)
      | (with_reducible refine LeO.ite ?_ ?_)
      | (with_reducible refine LeO.bind ?_ (fun _ => ?_))
      | exact ih0 _ _ _ _ _ _
      | exact ih1 _ _ _ _ _ _
      | exact ih2 _ _ _ _ _ _ _
      | exact ih3 _ _ _ _ _ _ _
      | exact watchmanref21_Is.mono _ _ _
      | exact watchmanref21_To.mono _ _ _ _
      | exact watchmanref21_without.mono _ _ _
      | exact LeO.none _
      | refine LeO.ite ?_ ?_
      | refine LeO.bind ?_ (fun _ => ?_)
def watchmanref21_Send.T10 : Bool × List (List Nat × List Nat) := (true, [([], []), ([0], [0]), ([], []), ([2], [2]), ([3], [3]), ([1, 4], [1, 4]), ([], []), ([6, 5, 4, 0, 1, 2, 3, 4, 5, 6], [5, 6])])
def watchmanref21_Send.B10 : List Nat := [0, 1, 0, 4, 12, 31, 0, 127]
theorem watchmanref21_Send.tab10 : rtab .any (opsOf Try.f11 10) = watchmanref21_Send.T10 := by kernel_rfl
theorem watchmanref21_Send.bits10 : waitsOk watchmanref21_Send.T10.2 watchmanref21_Send.B10 = true := by kernel_rfl
def watchmanref21_Send.T17 : Bool × List (List Nat × List Nat) := (true, [([], []), ([0], [0]), ([], []), ([2], [2]), ([3], [3]), ([4], [4]), ([1, 5], [1, 5]), ([0, 1, 2, 3, 4, 5, 6], []), ([7, 6, 6, 0, 1, 2, 3, 4, 5, 6], [6, 7])])
def watchmanref21_Send.B17 : List Nat := [0, 1, 0, 4, 12, 28, 63, 127, 255]
theorem watchmanref21_Send.tab17 : rtab .any (opsOf Try.f11 17) = watchmanref21_Send.T17 := by kernel_rfl
theorem watchmanref21_Send.bits17 : waitsOk watchmanref21_Send.T17.2 watchmanref21_Send.B17 = true := by kernel_rfl
def watchmanref21_Send.T21 : Bool × List (List Nat × List Nat) := (true, [([], []), ([0], [0]), ([], []), ([2], [2]), ([], []), ([], []), ([], []), ([], []), ([6, 7], [6, 7]), ([8], [8]), ([3, 4, 5, 9], [3, 4, 5, 9]), ([10], [10]), ([1, 11], [1, 11]), ([0, 1, 2, 3, 4, 5, 6, 7, 8, 9, 10, 11, 12], []), ([13, 12, 12, 0, 1, 2, 3, 4, 5, 6, 7, 8, 9, 10, 11, 12], [12, 13])])
def watchmanref21_Send.B21 : List Nat := [0, 1, 0, 4, 0, 0, 0, 0, 192, 448, 1020, 2044, 4095, 8191, 16383]
theorem watchmanref21_Send.tab21 : rtab .any (opsOf Try.f11 21) = watchmanref21_Send.T21 := by kernel_rfl
theorem watchmanref21_Send.bits21 : waitsOk watchmanref21_Send.T21.2 watchmanref21_Send.B21 = true := by kernel_rfl
set_option maxHeartbeats 8000000 in
set_option maxRecDepth 100000 in
theorem watchmanref21_Send.calls (k : Nat) (a0_0 : Int) (A0_1 : Option Addr) (c0_1 : Nat) (l0_1 : List (S35)) (a1 : Int) (a2 : Int) (A3 : Option Addr) (c3 : Nat) (l3 : List ByteArray) (r1 : Int) (r2 : List (S35)) (r3 : Int) (r4 : Int) (w : World) (hr0_1 : Kd.C k35 w A0_1 l0_1.length l0_1) (hc0_1 : l0_1.length ≤ c0_1) (hr3 : Kd.C Kd.string w A3 l3.length l3) (hc3 : l3.length ≤ c3) (h : watchmanref21_Send.f k a0_0 l0_1 a1 a2 l3 = some (r1, r2, r3, r4)) :
    Calls Try.prog 11 #[.agg #[.int .i64 a0_0, .slice A0_1 l0_1.length c0_1], .int .i64 a1, .int .i64 a2, .slice A3 l3.length c3] w fun e w' => ∃ v1_ : Value, e = .returned (.tuple #[.agg #[.int .i64 r1, v1_], .int .i64 r3, .int .i64 r4]) ∧ Kd.R k35 35 w' w.heap.size (fun _ => True) v1_ r2 ∧ Below w.heap.size w w' := by
  have hu24 := Try.underlying24
  have hu35 := Try.underlying35
  have HR0_1 := Aside0.mk hr0_1
  have HC0_1 := Aside0.mk hc0_1
  clear hr0_1 hc0_1
  have HR3 := Aside0.mk hr3
  have HC3 := Aside0.mk hc3
  clear hr3 hc3
  have HB := Aside0.mk (Below.refl w.heap.size w)
  have H : ((watchmanref21_Is.f k a0_0 l0_1).bind fun t134 => (if t134 = true then (if a1 < 0 then (watchmanref21_Send.j0 k a1 a2 l3 true a0_0 l0_1) else (if a1 > 20 then (watchmanref21_Send.j0 k a1 a2 l3 true a0_0 l0_1) else (if a2 < 0 then (watchmanref21_Send.j0 k a1 a2 l3 true a0_0 l0_1) else (watchmanref21_Send.j0 k a1 a2 l3 (decide (a2 > 20)) a0_0 l0_1)))) else (watchmanref21_Send.j0 k a1 a2 l3 true a0_0 l0_1))) = some (r1, r2, r3, r4) := h
  clear h
  have HC5 := Aside0.mk H
  clear H
  go_enter Try.func11, Try.ntmps11
  go_upto_region 1 with (first | ((with_reducible refine gate_dst (N := 4) rfl ?_); refine box_event ?hg (N := 4) ?hd (cs := #[.int .i64 a0_0, .slice A0_1 l0_1.length c0_1]) (t := 24) ?hr ?_; (case hd => rfl); (case hg => rfl); (case hr => first | (go_simp; done) | (go_simp; rfl)); intro gb132 hg w6 hbox hb; have BK132 := Aside0.mk (hbox); have GW132 := Aside0.mk ((by rw [hg]; exact (below_size HB.out) : w.heap.size ≤ gb132)); have GE132 := Aside0.mk ((by rw [hg]; exact (below_size HB.out) : w.heap.size ≤ gb132)); replace HB := Aside0.mk (below_step HB.out hb); clear hb hbox hg) | ((with_reducible refine gate_dst (N := 8) rfl ?_); refine box_event ?hg (N := 8) ?hd (cs := #[.int .i64 0, .slice none 0 0]) (t := 24) ?hr ?_; (case hd => rfl); (case hg => rfl); (case hr => first | (go_simp; done) | (go_simp; rfl)); intro gb133 hg w7 hbox hb; have BK133 := Aside0.mk (hbox); have GW133 := Aside0.mk ((by rw [hg]; exact (below_size (by repeat (with_reducible first | exact HB.out | apply pw_below_drewN | apply below_drew1 | refine below_set ?_ GE132.out))) : w.heap.size ≤ gb133)); have GE133 := Aside0.mk ((by rw [hg]; exact (below_size (by repeat (with_reducible first | exact HB.out | apply pw_below_drewN | apply below_drew1 | refine below_set ?_ GE132.out))) : w.heap.size ≤ gb133)); replace HB := Aside0.mk (below_step (by repeat (with_reducible first | exact HB.out | apply pw_below_drewN | apply below_drew1 | refine below_set ?_ GE132.out)) hb); have NB132_133 := Aside0.mk ((by rw [hg]; exact Nat.ne_of_lt (blk_lt BK132.out) : gb132 ≠ gb133)); have NB133_132 := Aside0.mk ((by rw [hg]; exact Nat.ne_of_gt (blk_lt BK132.out) : gb133 ≠ gb132)); replace BK132 := bl_ BK132 hb; clear hb hbox hg))
  (try simp only [Act.put, List.setIfInBounds_toArray, List.set_cons_zero, List.set_cons_succ])
  go_cut [34] (fun v34 wc => ∃ (kq : Nat) (x34_4 : Bool), v34 = .bool x34_4 ∧ Aside0 (watchmanref21_Send.j0 kq a1 a2 l3 x34_4 a0_0 l0_1 = some (r1, r2, r3, r4)) ∧ Aside0 (kq ≤ k) ∧ Aside0 (wc.heap[gb132]? = some (.cells #[.int .i64 a0_0, (.slice A0_1 l0_1.length c0_1)] 24 (0, 0))) ∧ Aside0 (wc.heap[gb133]? = some (.cells #[.int .i64 0, (.slice none 0 0)] 24 (0, 0))) ∧ Aside0 (Below w.heap.size w wc))
  case first =>
    have H := HC5.out
    clear HC5
    replace H := Option.bind_eq_some_iff.mp H
    obtain ⟨t134, A80, H⟩ := H
    replace H : (if t134 = true then (if a1 < 0 then (watchmanref21_Send.j0 k a1 a2 l3 true a0_0 l0_1) else (if a1 > 20 then (watchmanref21_Send.j0 k a1 a2 l3 true a0_0 l0_1) else (if a2 < 0 then (watchmanref21_Send.j0 k a1 a2 l3 true a0_0 l0_1) else (watchmanref21_Send.j0 k a1 a2 l3 (decide (a2 > 20)) a0_0 l0_1)))) else (watchmanref21_Send.j0 k a1 a2 l3 true a0_0 l0_1)) = some (r1, r2, r3, r4) := H
    have A8 := Aside0.mk A80
    clear A80
    by_cases c9 : t134 = true
    · subst c9
      have H1 : (if a1 < 0 then (watchmanref21_Send.j0 k a1 a2 l3 true a0_0 l0_1) else (if a1 > 20 then (watchmanref21_Send.j0 k a1 a2 l3 true a0_0 l0_1) else (if a2 < 0 then (watchmanref21_Send.j0 k a1 a2 l3 true a0_0 l0_1) else (watchmanref21_Send.j0 k a1 a2 l3 (decide (a2 > 20)) a0_0 l0_1)))) = some (r1, r2, r3, r4) := by rw [if_pos rfl] at H; exact H
      clear H
      have H := H1
      clear H1
      by_cases c10 : a1 < 0
      · rw [if_pos c10] at H
        have c10b0 : decide (a1 < 0) = true := decide_eq_true c10
        clear c10
        (first | rw [c10b0] | (simp only [i64_w, i32_w]; rw [c10b0]) | skip)
        have H' := Aside0.mk H
        clear H
        have hnb11 := NB132_133.out
        have hnc11 := NB133_132.out
        have hcz12_0 : w7.cell? ⟨gb132, 0, none⟩ = some (.int .i64 a0_0) := (blk_cell BK132.out 0).trans rfl
        have hcz12_1 : w7.cell? ⟨gb132, 1, none⟩ = some (.slice A0_1 l0_1.length c0_1) := (blk_cell BK132.out 1).trans rfl
        have hfz12_0 := blk_frozen BK132.out 0
        have hfz12_1 := blk_frozen BK132.out 1
        go_wp2_with (first | ((with_reducible refine gate_callee (f := 26) rfl ?_); refine goesL_ (some 17) rfl rfl Try.func26 (by kernel_rfl) rfl #[.agg #[.int .i64 a0_0, .slice A0_1 l0_1.length c0_1]] rfl (by (try simp only [List.map_toArray, List.map_cons, List.map_nil]); first | done | rfl | (simp only [List.length_drop, List.length_take]; rfl)) ?_; (with_reducible refine (watchmanref21_Is.calls k a0_0 _ _ l0_1 true _ ?side1 ?side2 A8.out).mono ?_); (case side1 => exact (Kd.C_below HR0_1.out HB.out)); (case side2 => exact HC0_1.out); rintro e w13 ⟨rfl, hb⟩; refine ⟨_, rfl, ?_⟩; replace BK132 := bl_ BK132 hb; replace BK133 := bl_ BK133 hb; replace HB := Aside0.mk (below_step (by repeat (with_reducible first | exact HB.out | apply pw_below_drewN | apply below_drew1 | refine below_set ?_ (Aside0.out (by assumption)))) hb); (try clear hb); (try clear hb2); (try clear hk); (try clear hi)))
        go_meet
        case rel => exact ⟨_, (true), (by first | rfl | (simp; done) | (simp [*]; done)), H', ⟨by first | omega | exact Nat.le_refl _⟩, ⟨by (with_reducible repeat (first | refine blk_drewN ?_ _ | refine blk_drew ?_ | refine blk_alloc ?_ _)); exact BK132.out⟩, ⟨by (with_reducible repeat (first | refine blk_drewN ?_ _ | refine blk_drew ?_ | refine blk_alloc ?_ _)); exact BK133.out⟩, ⟨by repeat (with_reducible first | exact HB.out | apply pw_below_drewN | apply below_drew1 | refine below_set ?_ (Aside0.out (by assumption)))⟩⟩
      · rw [if_neg c10] at H
        have c10b0 : decide (a1 < 0) = false := decide_eq_false c10
        clear c10
        (first | rw [c10b0] | (simp only [i64_w, i32_w]; rw [c10b0]) | skip)
        by_cases c14 : a1 > 20
        · rw [if_pos c14] at H
          have c14b0 : decide (20 < a1) = true := decide_eq_true c14
          clear c14
          have H' := Aside0.mk H
          clear H
          have hnb15 := NB132_133.out
          have hnc15 := NB133_132.out
          have hcz16_0 : w7.cell? ⟨gb132, 0, none⟩ = some (.int .i64 a0_0) := (blk_cell BK132.out 0).trans rfl
          have hcz16_1 : w7.cell? ⟨gb132, 1, none⟩ = some (.slice A0_1 l0_1.length c0_1) := (blk_cell BK132.out 1).trans rfl
          have hfz16_0 := blk_frozen BK132.out 0
          have hfz16_1 := blk_frozen BK132.out 1
          go_wp2_with (first | ((with_reducible refine gate_callee (f := 26) rfl ?_); refine goesL_ (some 17) rfl rfl Try.func26 (by kernel_rfl) rfl #[.agg #[.int .i64 a0_0, .slice A0_1 l0_1.length c0_1]] rfl (by (try simp only [List.map_toArray, List.map_cons, List.map_nil]); first | done | rfl | (simp only [List.length_drop, List.length_take]; rfl)) ?_; (with_reducible refine (watchmanref21_Is.calls k a0_0 _ _ l0_1 true _ ?side1 ?side2 A8.out).mono ?_); (case side1 => exact (Kd.C_below HR0_1.out HB.out)); (case side2 => exact HC0_1.out); rintro e w17 ⟨rfl, hb⟩; refine ⟨_, rfl, ?_⟩; replace BK132 := bl_ BK132 hb; replace BK133 := bl_ BK133 hb; replace HB := Aside0.mk (below_step (by repeat (with_reducible first | exact HB.out | apply pw_below_drewN | apply below_drew1 | refine below_set ?_ (Aside0.out (by assumption)))) hb); (try clear hb); (try clear hb2); (try clear hk); (try clear hi)))
          go_meet
          case rel => exact ⟨_, (true), (by first | rfl | (simp; done) | (simp [*]; done)), H', ⟨by first | omega | exact Nat.le_refl _⟩, ⟨by (with_reducible repeat (first | refine blk_drewN ?_ _ | refine blk_drew ?_ | refine blk_alloc ?_ _)); exact BK132.out⟩, ⟨by (with_reducible repeat (first | refine blk_drewN ?_ _ | refine blk_drew ?_ | refine blk_alloc ?_ _)); exact BK133.out⟩, ⟨by repeat (with_reducible first | exact HB.out | apply pw_below_drewN | apply below_drew1 | refine below_set ?_ (Aside0.out (by assumption)))⟩⟩
        · rw [if_neg c14] at H
          have c14b0 : decide (20 < a1) = false := decide_eq_false c14
          clear c14
          by_cases c18 : a2 < 0
          · rw [if_pos c18] at H
            have c18b0 : decide (a2 < 0) = true := decide_eq_true c18
            clear c18
            have H' := Aside0.mk H
            clear H
            have hnb19 := NB132_133.out
            have hnc19 := NB133_132.out
            have hcz20_0 : w7.cell? ⟨gb132, 0, none⟩ = some (.int .i64 a0_0) := (blk_cell BK132.out 0).trans rfl
            have hcz20_1 : w7.cell? ⟨gb132, 1, none⟩ = some (.slice A0_1 l0_1.length c0_1) := (blk_cell BK132.out 1).trans rfl
            have hfz20_0 := blk_frozen BK132.out 0
            have hfz20_1 := blk_frozen BK132.out 1
            go_wp2_with (first | ((with_reducible refine gate_callee (f := 26) rfl ?_); refine goesL_ (some 17) rfl rfl Try.func26 (by kernel_rfl) rfl #[.agg #[.int .i64 a0_0, .slice A0_1 l0_1.length c0_1]] rfl (by (try simp only [List.map_toArray, List.map_cons, List.map_nil]); first | done | rfl | (simp only [List.length_drop, List.length_take]; rfl)) ?_; (with_reducible refine (watchmanref21_Is.calls k a0_0 _ _ l0_1 true _ ?side1 ?side2 A8.out).mono ?_); (case side1 => exact (Kd.C_below HR0_1.out HB.out)); (case side2 => exact HC0_1.out); rintro e w21 ⟨rfl, hb⟩; refine ⟨_, rfl, ?_⟩; replace BK132 := bl_ BK132 hb; replace BK133 := bl_ BK133 hb; replace HB := Aside0.mk (below_step (by repeat (with_reducible first | exact HB.out | apply pw_below_drewN | apply below_drew1 | refine below_set ?_ (Aside0.out (by assumption)))) hb); (try clear hb); (try clear hb2); (try clear hk); (try clear hi)))
            go_meet
            case rel => exact ⟨_, (true), (by first | rfl | (simp; done) | (simp [*]; done)), H', ⟨by first | omega | exact Nat.le_refl _⟩, ⟨by (with_reducible repeat (first | refine blk_drewN ?_ _ | refine blk_drew ?_ | refine blk_alloc ?_ _)); exact BK132.out⟩, ⟨by (with_reducible repeat (first | refine blk_drewN ?_ _ | refine blk_drew ?_ | refine blk_alloc ?_ _)); exact BK133.out⟩, ⟨by repeat (with_reducible first | exact HB.out | apply pw_below_drewN | apply below_drew1 | refine below_set ?_ (Aside0.out (by assumption)))⟩⟩
          · rw [if_neg c18] at H
            have c18b0 : decide (a2 < 0) = false := decide_eq_false c18
            clear c18
            have H' := Aside0.mk H
            clear H
            have hnb22 := NB132_133.out
            have hnc22 := NB133_132.out
            have hcz23_0 : w7.cell? ⟨gb132, 0, none⟩ = some (.int .i64 a0_0) := (blk_cell BK132.out 0).trans rfl
            have hcz23_1 : w7.cell? ⟨gb132, 1, none⟩ = some (.slice A0_1 l0_1.length c0_1) := (blk_cell BK132.out 1).trans rfl
            have hfz23_0 := blk_frozen BK132.out 0
            have hfz23_1 := blk_frozen BK132.out 1
            go_wp2_with (first | ((with_reducible refine gate_callee (f := 26) rfl ?_); refine goesL_ (some 17) rfl rfl Try.func26 (by kernel_rfl) rfl #[.agg #[.int .i64 a0_0, .slice A0_1 l0_1.length c0_1]] rfl (by (try simp only [List.map_toArray, List.map_cons, List.map_nil]); first | done | rfl | (simp only [List.length_drop, List.length_take]; rfl)) ?_; (with_reducible refine (watchmanref21_Is.calls k a0_0 _ _ l0_1 true _ ?side1 ?side2 A8.out).mono ?_); (case side1 => exact (Kd.C_below HR0_1.out HB.out)); (case side2 => exact HC0_1.out); rintro e w24 ⟨rfl, hb⟩; refine ⟨_, rfl, ?_⟩; replace BK132 := bl_ BK132 hb; replace BK133 := bl_ BK133 hb; replace HB := Aside0.mk (below_step (by repeat (with_reducible first | exact HB.out | apply pw_below_drewN | apply below_drew1 | refine below_set ?_ (Aside0.out (by assumption)))) hb); (try clear hb); (try clear hb2); (try clear hk); (try clear hi)))
            go_meet
            case rel => exact ⟨_, (decide (a2 > 20)), (by first | rfl | (simp; done) | (simp [*]; done)), H', ⟨by first | omega | exact Nat.le_refl _⟩, ⟨by (with_reducible repeat (first | refine blk_drewN ?_ _ | refine blk_drew ?_ | refine blk_alloc ?_ _)); exact BK132.out⟩, ⟨by (with_reducible repeat (first | refine blk_drewN ?_ _ | refine blk_drew ?_ | refine blk_alloc ?_ _)); exact BK133.out⟩, ⟨by repeat (with_reducible first | exact HB.out | apply pw_below_drewN | apply below_drew1 | refine below_set ?_ (Aside0.out (by assumption)))⟩⟩
    · replace c9 := Bool.eq_false_iff.mpr c9
      subst c9
      have H1 : (watchmanref21_Send.j0 k a1 a2 l3 true a0_0 l0_1) = some (r1, r2, r3, r4) := by rw [if_neg (show ¬ (false = true) by decide)] at H; exact H
      clear H
      have H := H1
      clear H1
      have H' := Aside0.mk H
      clear H
      have hnb25 := NB132_133.out
      have hnc25 := NB133_132.out
      have hcz26_0 : w7.cell? ⟨gb132, 0, none⟩ = some (.int .i64 a0_0) := (blk_cell BK132.out 0).trans rfl
      have hcz26_1 : w7.cell? ⟨gb132, 1, none⟩ = some (.slice A0_1 l0_1.length c0_1) := (blk_cell BK132.out 1).trans rfl
      have hfz26_0 := blk_frozen BK132.out 0
      have hfz26_1 := blk_frozen BK132.out 1
      go_wp2_with (first | ((with_reducible refine gate_callee (f := 26) rfl ?_); refine goesL_ (some 17) rfl rfl Try.func26 (by kernel_rfl) rfl #[.agg #[.int .i64 a0_0, .slice A0_1 l0_1.length c0_1]] rfl (by (try simp only [List.map_toArray, List.map_cons, List.map_nil]); first | done | rfl | (simp only [List.length_drop, List.length_take]; rfl)) ?_; (with_reducible refine (watchmanref21_Is.calls k a0_0 _ _ l0_1 false _ ?side1 ?side2 A8.out).mono ?_); (case side1 => exact (Kd.C_below HR0_1.out HB.out)); (case side2 => exact HC0_1.out); rintro e w27 ⟨rfl, hb⟩; refine ⟨_, rfl, ?_⟩; replace BK132 := bl_ BK132 hb; replace BK133 := bl_ BK133 hb; replace HB := Aside0.mk (below_step (by repeat (with_reducible first | exact HB.out | apply pw_below_drewN | apply below_drew1 | refine below_set ?_ (Aside0.out (by assumption)))) hb); (try clear hb); (try clear hb2); (try clear hk); (try clear hi)))
      go_meet
      case rel => exact ⟨_, (true), (by first | rfl | (simp; done) | (simp [*]; done)), H', ⟨by first | omega | exact Nat.le_refl _⟩, ⟨by (with_reducible repeat (first | refine blk_drewN ?_ _ | refine blk_drew ?_ | refine blk_alloc ?_ _)); exact BK132.out⟩, ⟨by (with_reducible repeat (first | refine blk_drewN ?_ _ | refine blk_drew ?_ | refine blk_alloc ?_ _)); exact BK133.out⟩, ⟨by repeat (with_reducible first | exact HB.out | apply pw_below_drewN | apply below_drew1 | refine below_set ?_ (Aside0.out (by assumption)))⟩⟩
  case rest =>
    clear HC5
    try clear c1
    try clear c2
    try clear p2
    try clear c3
    try clear c9
    try clear c10
    try clear c10b0
    try clear c11
    try clear c14
    try clear c14b0
    try clear c15
    try clear c18
    try clear c18b0
    try clear c19
    try clear c22
    try clear c25
    try clear c26
    try clear hcz12_0
    try clear hcz12_1
    try clear hcz16_0
    try clear hcz16_1
    try clear hcz20_0
    try clear hcz20_1
    try clear hcz23_0
    try clear hcz23_1
    try clear hcz26_0
    try clear hcz26_1
    try clear hfz12_0
    try clear hfz12_1
    try clear hfz16_0
    try clear hfz16_1
    try clear hfz20_0
    try clear hfz20_1
    try clear hfz23_0
    try clear hfz23_1
    try clear hfz26_0
    try clear hfz26_1
    obtain ⟨kq, x34_4, rfl, HA, HJ4, BK132, BK133, HB⟩ := hcut
    cases kq with
    | zero => exact absurd HA.out (by simp [watchmanref21_Send.j0])
    | succ kj4 =>
      have H := HA.out
      clear HA
      simp only [watchmanref21_Send.j0] at H
      by_cases c28 : x34_4 = true
      · subst c28
        have H1 : (some (0, ([] : List (S35)), 0, 1)) = some (r1, r2, r3, r4) := by rw [if_pos rfl] at H; exact H
        clear H
        have H := H1
        clear H1
        simp only [Option.some.injEq, Prod.mk.injEq] at H
        obtain ⟨rfl, rfl, rfl, rfl⟩ := H
        have hnb29 := NB133_132.out
        have hnc29 := NB132_133.out
        have hcz30_0 : wc.cell? ⟨gb133, 0, none⟩ = some (.int .i64 0) := (blk_cell BK133.out 0).trans rfl
        have hcz30_1 : wc.cell? ⟨gb133, 1, none⟩ = some (.slice none 0 0) := (blk_cell BK133.out 1).trans rfl
        have hfz30_0 := blk_frozen BK133.out 0
        have hfz30_1 := blk_frozen BK133.out 1
        go_wp2
        refine bodyPost_ret (results_ctt rfl _ _ gb133 24 #[.int .i64 0, .slice none 0 0] (0, 0) _ rfl (by refine blk_put (cs := #[.int .i64 0, .slice none 0 0]) ?_ 1 _ rfl; refine blk_put (cs := #[.int .i64 0, .slice none 0 0]) ?_ 0 _ rfl; exact BK133.out) Try.underlying24 rfl (by kernel_rfl)) rfl ?_
        exact ⟨_, by first | rfl | (simp [errW_none, errW_some] <;> rfl) | (simp [*, errW_none, errW_some] <;> rfl), by first | exact Kd.R_nil _ _ _ _ _ | exact Kd.N_nil _ _ _ _ _ | exact Kd.V_nil _ _ _ _ _ | exact Kd.Q_nil _ _ _ _ _ | exact Kd.S_nil _ _ _ _ _, by repeat (with_reducible first | exact HB.out | apply pw_below_drewN | apply below_drew1 | refine below_set ?_ (Aside0.out (by assumption)))⟩
      · replace c28 := Bool.eq_false_iff.mpr c28
        subst c28
        have H1 : (watchmanref21_Send.l0 kj4 a1 a2 l3 0 a0_0 l0_1) = some (r1, r2, r3, r4) := by rw [if_neg (show ¬ (false = true) by decide)] at H; exact H
        clear H
        have H := H1
        clear H1
        have H' := Aside0.mk H
        clear H
        go_wp2
        go_loopg [11] kj4 (fun kq v11 w' => ∃ (x11_2 : Int) (x134000_2 : Int), v11 = .int .i64 x11_2 ∧ Aside0 (watchmanref21_Send.l0 kq a1 a2 l3 x11_2 a0_0 l0_1 = some (r1, r2, r3, r4)) ∧ Aside0 (kq ≤ kj4) ∧ Aside0 (w'.heap[gb132]? = some (.cells #[.int .i64 a0_0, (.slice A0_1 l0_1.length c0_1)] 24 (0, 0))) ∧ Aside0 (w'.heap[gb133]? = some (.cells #[.int .i64 x134000_2, (.slice none 0 0)] 24 (0, 0))) ∧ Aside0 (Below w.heap.size w w'))
        case atStart => exact ⟨(0), (0), (by first | rfl | (simp; done) | (simp [*]; done)), H', ⟨Nat.le_refl _⟩, ⟨by (with_reducible repeat (first | refine blk_drewN ?_ _ | refine blk_drew ?_ | refine blk_alloc ?_ _)); exact BK132.out⟩, ⟨by (with_reducible repeat (first | refine blk_drewN ?_ _ | refine blk_drew ?_ | refine blk_alloc ?_ _)); exact BK133.out⟩, ⟨by repeat (with_reducible first | exact HB.out | apply pw_below_drewN | apply below_drew1 | refine below_set ?_ (Aside0.out (by assumption)))⟩⟩
        case round =>
          clear H'
          try clear c1
          try clear c2
          try clear p2
          try clear c3
          try clear c9
          try clear c10
          try clear c10b0
          try clear c11
          try clear c14
          try clear c14b0
          try clear c15
          try clear c18
          try clear c18b0
          try clear c19
          try clear c22
          try clear c25
          try clear c26
          try clear c28
          try clear c29
          try clear hcz12_0
          try clear hcz12_1
          try clear hcz16_0
          try clear hcz16_1
          try clear hcz20_0
          try clear hcz20_1
          try clear hcz23_0
          try clear hcz23_1
          try clear hcz26_0
          try clear hcz26_1
          try clear hcz30_0
          try clear hcz30_1
          try clear hfz12_0
          try clear hfz12_1
          try clear hfz16_0
          try clear hfz16_1
          try clear hfz20_0
          try clear hfz20_1
          try clear hfz23_0
          try clear hfz23_1
          try clear hfz26_0
          try clear hfz26_1
          try clear hfz30_0
          try clear hfz30_1
          try clear p2
          obtain ⟨x11_2, x134000_2, rfl, HA, HK2, BK132, BK133, HB⟩ := hrel
          cases gk with
          | zero => exact absurd HA.out (by simp [watchmanref21_Send.l0])
          | succ k2 =>
            have H := HA.out
            clear HA
            simp only [watchmanref21_Send.l0] at H
            by_cases c31 : x11_2 < (l3.length : Int)
            · rw [if_pos c31] at H
              have c31b0 : decide (x11_2 < (l3.length : Int)) = true := decide_eq_true c31
              clear c31
              by_cases c32 : 0 ≤ x11_2
              · rw [if_pos c32] at H
                have c32b0 : decide (0 ≤ x11_2) = true := decide_eq_true c32
                clear c32
                by_cases c33 : ((rdOf ByteArray.empty l3 x11_2).size : Int) > 2000
                · rw [if_pos c33] at H
                  have c33b0 : decide (2000 < ((rdOf ByteArray.empty l3 x11_2).size : Int)) = true := decide_eq_true c33
                  have c33b1 : decide (2000 < (rdOf ByteArray.empty l3 x11_2).size) = true := decide_eq_true (by omega)
                  clear c33
                  simp only [Option.some.injEq, Prod.mk.injEq] at H
                  obtain ⟨rfl, rfl, rfl, rfl⟩ := H
                  have p135 : 0 ≤ (x11_2 : Int) := of_decide_eq_true (by first | (with_reducible assumption) | assumption)
                  have q135 : x11_2 < (l3.length : Int) := of_decide_eq_true (by first | (with_reducible assumption) | assumption)
                  obtain ⟨ad135, e135, hx135_0⟩ := Kd.at_string HR3.out x11_2 p135 q135
                  cases e135
                  replace hx135_0 := (HB.out.cell (World.block_lt_of_cell? w _ hx135_0)).trans hx135_0
                  replace p135 := eq_true p135
                  replace q135 := eq_true q135
                  have hnb34 := NB133_132.out
                  have hnc34 := NB132_133.out
                  have hcz35_0 : wr.cell? ⟨gb133, 0, none⟩ = some (.int .i64 x134000_2) := (blk_cell BK133.out 0).trans rfl
                  have hcz35_1 : wr.cell? ⟨gb133, 1, none⟩ = some (.slice none 0 0) := (blk_cell BK133.out 1).trans rfl
                  have hfz35_0 := blk_frozen BK133.out 0
                  have hfz35_1 := blk_frozen BK133.out 1
                  go_wp2
                  refine bodyPost_ret (results_ctt rfl _ _ gb133 24 #[.int .i64 0, .slice none 0 0] (0, 0) _ rfl (by refine blk_put (cs := #[.int .i64 0, .slice none 0 0]) ?_ 1 _ rfl; refine blk_put (cs := #[.int .i64 x134000_2, .slice none 0 0]) ?_ 0 _ rfl; exact BK133.out) Try.underlying24 rfl (by kernel_rfl)) rfl ?_
                  exact ⟨_, by first | rfl | (simp [errW_none, errW_some] <;> rfl) | (simp [*, errW_none, errW_some] <;> rfl), by first | exact Kd.R_nil _ _ _ _ _ | exact Kd.N_nil _ _ _ _ _ | exact Kd.V_nil _ _ _ _ _ | exact Kd.Q_nil _ _ _ _ _ | exact Kd.S_nil _ _ _ _ _, by repeat (with_reducible first | exact HB.out | apply pw_below_drewN | apply below_drew1 | refine below_set ?_ (Aside0.out (by assumption)))⟩
                · rw [if_neg c33] at H
                  have c33b0 : decide (2000 < ((rdOf ByteArray.empty l3 x11_2).size : Int)) = false := decide_eq_false c33
                  have c33b1 : decide (2000 < (rdOf ByteArray.empty l3 x11_2).size) = false := decide_eq_false (by omega)
                  clear c33
                  have H' := Aside0.mk H
                  clear H
                  have p135 : 0 ≤ (x11_2 : Int) := of_decide_eq_true (by first | (with_reducible assumption) | assumption)
                  have q135 : x11_2 < (l3.length : Int) := of_decide_eq_true (by first | (with_reducible assumption) | assumption)
                  obtain ⟨ad135, e135, hx135_0⟩ := Kd.at_string HR3.out x11_2 p135 q135
                  cases e135
                  replace hx135_0 := (HB.out.cell (World.block_lt_of_cell? w _ hx135_0)).trans hx135_0
                  replace p135 := eq_true p135
                  replace q135 := eq_true q135
                  go_wp2
                  go_roundg k2
                  case measure => have := HJ4.out; have := HK2.out; omega
                  case rel => exact ⟨(wrap64 (x11_2 + 1)), (x134000_2), (by first | rfl | (simp; done) | (simp [*]; done)), H', ⟨by have := HJ4.out; have := HK2.out; omega⟩, ⟨by (with_reducible repeat (first | refine blk_drewN ?_ _ | refine blk_drew ?_ | refine blk_alloc ?_ _)); exact BK132.out⟩, ⟨by (with_reducible repeat (first | refine blk_drewN ?_ _ | refine blk_drew ?_ | refine blk_alloc ?_ _)); exact BK133.out⟩, ⟨by repeat (with_reducible first | exact HB.out | apply pw_below_drewN | apply below_drew1 | refine below_set ?_ (Aside0.out (by assumption)))⟩⟩
              · rw [if_neg c32] at H
                exact absurd H (by simp)
            · rw [if_neg c31] at H
              have c31b0 : decide (x11_2 < (l3.length : Int)) = false := decide_eq_false c31
              clear c31
              by_cases c36 : a0_0 > (wrap64 (1000000000 - (l3.length : Int)))
              · rw [if_pos c36] at H
                have c36b0 : decide ((wrap64 (1000000000 - (l3.length : Int))) < a0_0) = true := decide_eq_true c36
                clear c36
                simp only [Option.some.injEq, Prod.mk.injEq] at H
                obtain ⟨rfl, rfl, rfl, rfl⟩ := H
                have hnb37 := NB132_133.out
                have hnc37 := NB133_132.out
                have hcz38_0 : wr.cell? ⟨gb132, 0, none⟩ = some (.int .i64 a0_0) := (blk_cell BK132.out 0).trans rfl
                have hcz38_1 : wr.cell? ⟨gb132, 1, none⟩ = some (.slice A0_1 l0_1.length c0_1) := (blk_cell BK132.out 1).trans rfl
                have hfz38_0 := blk_frozen BK132.out 0
                have hfz38_1 := blk_frozen BK132.out 1
                have hcz39_0 : wr.cell? ⟨gb133, 0, none⟩ = some (.int .i64 x134000_2) := (blk_cell BK133.out 0).trans rfl
                have hcz39_1 : wr.cell? ⟨gb133, 1, none⟩ = some (.slice none 0 0) := (blk_cell BK133.out 1).trans rfl
                have hfz39_0 := blk_frozen BK133.out 0
                have hfz39_1 := blk_frozen BK133.out 1
                go_wp2
                refine bodyPost_ret (results_ctt rfl _ _ gb133 24 #[.int .i64 0, .slice none 0 0] (0, 0) _ rfl (by refine blk_put (cs := #[.int .i64 0, .slice none 0 0]) ?_ 1 _ rfl; refine blk_put (cs := #[.int .i64 x134000_2, .slice none 0 0]) ?_ 0 _ rfl; exact BK133.out) Try.underlying24 rfl (by kernel_rfl)) rfl ?_
                exact ⟨_, by first | rfl | (simp [errW_none, errW_some] <;> rfl) | (simp [*, errW_none, errW_some] <;> rfl), by first | exact Kd.R_nil _ _ _ _ _ | exact Kd.N_nil _ _ _ _ _ | exact Kd.V_nil _ _ _ _ _ | exact Kd.Q_nil _ _ _ _ _ | exact Kd.S_nil _ _ _ _ _, by repeat (with_reducible first | exact HB.out | apply pw_below_drewN | apply below_drew1 | refine below_set ?_ (Aside0.out (by assumption)))⟩
              · rw [if_neg c36] at H
                have c36b0 : decide ((wrap64 (1000000000 - (l3.length : Int))) < a0_0) = false := decide_eq_false c36
                clear c36
                replace H := Option.bind_eq_some_iff.mp H
                obtain ⟨t136, A400, H⟩ := H
                replace H : (watchmanref21_Send.l1 k2 a1 a2 l3 0 0 a0_0 t136) = some (r1, r2, r3, r4) := H
                have A40 := Aside0.mk A400
                clear A400
                have H' := Aside0.mk H
                clear H
                have hnb41 := NB132_133.out
                have hnc41 := NB133_132.out
                have hcz42_0 : wr.cell? ⟨gb132, 0, none⟩ = some (.int .i64 a0_0) := (blk_cell BK132.out 0).trans rfl
                have hcz42_1 : wr.cell? ⟨gb132, 1, none⟩ = some (.slice A0_1 l0_1.length c0_1) := (blk_cell BK132.out 1).trans rfl
                have hfz42_0 := blk_frozen BK132.out 0
                have hfz42_1 := blk_frozen BK132.out 1
                try go_wp2
                replace BK132 := Aside0.mk (blk_drew BK132.out)
                replace BK133 := Aside0.mk (blk_drew BK133.out)
                replace HB := Aside0.mk (below_drew1 HB.out)
                refine start_ (n := 8) (S := fun w' => w'.cell? ⟨gb132, 0, none⟩ = some (.int .i64 a0_0) ∧ w'.cell? ⟨gb132, 1, none⟩ = some (.slice A0_1 l0_1.length c0_1)) (ds := []) #[false, false, false, false, false, false, false, false] (by kernel_rfl) rfl rfl ⟨(blk_cell BK132.out 0).trans rfl, (blk_cell BK132.out 1).trans rfl⟩ (fun hHeld => ?_); refine with_tabW watchmanref21_Send.tab10 watchmanref21_Send.bits10 (fun HT_ HW_ => ?_)
                generalize wr.drew = w43 at BK132 BK133 HB hHeld ⊢
                refine pure_ (i := 0) (N := some 56) (v := ?_) (a' := ?_) (dn_ 1 8) rfl rfl (any_of HT_.out (by kernel_rfl)) (fun _ _ _ h => h) (Or.inl ⟨by rfl, ?_⟩) ?_ ?_
                rotate_left
                · intro w'
                  go_simp
                  with_reducible rfl
                rotate_left; (simp only [Act.put, List.setIfInBounds_toArray, List.set_cons_zero, List.set_cons_succ, i64_w, i32_w]; rfl)
                refine pure_ (i := 2) (N := some 58) (v := ?_) (a' := ?_) #[true, false, true, false, false, false, false, false] rfl rfl (any_of HT_.out (by kernel_rfl)) (fun _ _ _ h => h) (Or.inl ⟨by rfl, ?_⟩) ?_ ?_
                rotate_left
                · intro w'
                  go_simp
                  with_reducible rfl
                rotate_left; (simp only [Act.put, List.setIfInBounds_toArray, List.set_cons_zero, List.set_cons_succ, i64_w, i32_w]; rfl)
                refine take_ (i := 1) (N := some 57) (v := ?_) (a' := ?_) (dn_ 3 8) rfl rfl (take_ofW HT_.out HW_.out (by kernel_rfl)) (fun _ _ _ h => h) (Or.inl ⟨by rfl, ?_⟩) hHeld ?_ ?_
                rotate_left
                · rintro w' ⟨s0, s1⟩
                  go_simp
                  with_reducible rfl
                rotate_left; (simp only [Act.put, List.setIfInBounds_toArray, List.set_cons_zero, List.set_cons_succ, i64_w, i32_w]; rfl)
                refine take_ (i := 3) (N := some 59) (v := ?_) (a' := ?_) (dn_ 4 8) rfl rfl (take_ofW HT_.out HW_.out (by kernel_rfl)) (fun _ _ _ h => h) (Or.inl ⟨by rfl, ?_⟩) hHeld ?_ ?_
                rotate_left
                · rintro w' ⟨s0, s1⟩
                  go_simp
                  with_reducible rfl
                rotate_left; (simp only [Act.put, List.setIfInBounds_toArray, List.set_cons_zero, List.set_cons_succ, i64_w, i32_w]; rfl)
                refine join_ (σ := Value × Nat) 1 (dn_ 7 8) (fun s_ => [(60, s_.1), (12, .pointer (some ⟨s_.2, 0, none⟩)), (61, .agg #[.int .i64 a0_0, s_.1])]) (fun s_ w' => (w'.cell? ⟨gb132, 0, none⟩ = some (.int .i64 a0_0) ∧ w'.cell? ⟨gb132, 1, none⟩ = some (.slice A0_1 l0_1.length c0_1)) ∧ (Kd.R k35 35 w' w.heap.size (fun _ => True) s_.1 t136) ∧ (w'.heap[gb132]? = some (.cells #[.int .i64 a0_0, .slice A0_1 l0_1.length c0_1] 24 (0, 0))) ∧ (w'.heap[gb133]? = some (.cells #[.int .i64 x134000_2, .slice none 0 0] 24 (0, 0))) ∧ (w'.heap[s_.2]? = some (.cells #[.int .i64 0, .slice none 0 0] 24 (0, 0))) ∧ (w.heap.size ≤ s_.2) ∧ (w.heap.size ≤ s_.2) ∧ (gb132 ≠ s_.2) ∧ (s_.2 ≠ gb132) ∧ (gb133 ≠ s_.2) ∧ (s_.2 ≠ gb133) ∧ (Below w.heap.size w w')) ?_ ?_
                rotate_left
                · intro hCont
                  refine two_ (i := 4) (j := 6) (Ni := some 60) (Nj := some 12) (dn_ 5 8) #[true, true, true, true, false, false, true, false] rfl rfl rfl rfl (two_of HT_.out (by kernel_rfl)) (by decide) (by decide) (fun K hK => ?_) (fun K hK => ?_)
                  · skip
                    refine goes_ Try.func9 (by kernel_rfl) rfl #[.slice A0_1 l0_1.length c0_1] (by rfl) rfl rfl (by (try simp only [List.map_toArray, List.map_cons, List.map_nil]); first | done | rfl | (simp only [List.length_drop, List.length_take]; rfl)) ?_
                    with_reducible refine (watchmanref21_Own.calls _ _ l0_1 t136 _ ?side1 ?side2 A40.out).mono ?_
                    (case side1 => exact (Kd.C_below HR0_1.out HB.out))
                    (case side2 => exact HC0_1.out)
                    rintro e w44 ⟨v137, rfl, ho0, hb⟩
                    refine ⟨_, rfl, ?_⟩
                    have HO138 := Aside0.mk (Kd.R_lower ho0 (below_size (by repeat (with_reducible first | exact HB.out | apply pw_below_drewN | apply below_drew1 | refine below_set ?_ (Aside0.out (by assumption))))))
                    replace BK132 := bl_ BK132 hb
                    replace BK133 := bl_ BK133 hb
                    replace HB := Aside0.mk (below_step (by repeat (with_reducible first | exact HB.out | apply pw_below_drewN | apply below_drew1 | refine below_set ?_ (Aside0.out (by assumption)))) hb)
                    (try clear hb)
                    (try clear hb2)
                    (try clear hk)
                    (try clear hi)
                    (try clear ho0)
                    obtain ⟨Ao45, co45, eo45⟩ := Kd.R_slice HO138.out
                    (first | subst eo45 | (injection eo45 with f1_ f2_ f3_; have f4_ := f1_.symm; have f5_ := f3_.symm; clear f1_ f2_ f3_; subst f4_; subst f5_))
                    refine hK.out _ _ ⟨(blk_cell BK132.out 0).trans rfl, (blk_cell BK132.out 1).trans rfl⟩ (fun hHeld => ?_)
                    clear hK K
                    refine norm_ (a' := ?_) ?_ ?_
                    rotate_left
                    · show Act.put _ (some 60) _ = _
                      simp only [Act.put, List.setIfInBounds_toArray, List.set_cons_zero, List.set_cons_succ, i64_w, i32_w]
                      rfl
                    refine pure_ (i := 5) (N := some 61) (v := ?_) (a' := ?_) (dn_ 6 8) rfl rfl (any_of HT_.out (by kernel_rfl)) (fun _ _ _ h => h) (Or.inl ⟨by rfl, ?_⟩) ?_ ?_
                    rotate_left
                    · intro w'
                      go_simp
                      with_reducible rfl
                    rotate_left; (simp only [Act.put, List.setIfInBounds_toArray, List.set_cons_zero, List.set_cons_succ, i64_w, i32_w]; rfl)
                    refine one_ (i := 6) (N := some 12) (dn_ 7 8) rfl rfl (one_of HT_.out (by kernel_rfl)) (by decide) (fun K hK => ?_)
                    refine box_step ?hg (N := 12) ?hd (cs := #[.int .i64 0, .slice none 0 0]) (t := 24) ?hr ?_; (case hd => rfl); (case hg => rfl); (case hr => first | (go_simp; done) | (go_simp; rfl))
                    intro gb139 hg w46 hbox hb
                    replace HO138 := rb_ HO138 hb
                    have BK139 := Aside0.mk (hbox)
                    have GW139 := Aside0.mk ((by rw [hg]; exact (below_size (by repeat (with_reducible first | exact HB.out | apply pw_below_drewN | apply below_drew1 | refine below_set ?_ (Aside0.out (by assumption))))) : w.heap.size ≤ gb139))
                    have GE139 := Aside0.mk ((by rw [hg]; exact (below_size (by repeat (with_reducible first | exact HB.out | apply pw_below_drewN | apply below_drew1 | refine below_set ?_ (Aside0.out (by assumption))))) : w.heap.size ≤ gb139))
                    replace HB := Aside0.mk (below_step (by repeat (with_reducible first | exact HB.out | apply pw_below_drewN | apply below_drew1 | refine below_set ?_ (Aside0.out (by assumption)))) hb)
                    have NB132_139 := Aside0.mk ((by rw [hg]; exact Nat.ne_of_lt (blk_lt BK132.out) : gb132 ≠ gb139))
                    have NB139_132 := Aside0.mk ((by rw [hg]; exact Nat.ne_of_gt (blk_lt BK132.out) : gb139 ≠ gb132))
                    replace BK132 := bl_ BK132 hb
                    have NB133_139 := Aside0.mk ((by rw [hg]; exact Nat.ne_of_lt (blk_lt BK133.out) : gb133 ≠ gb139))
                    have NB139_133 := Aside0.mk ((by rw [hg]; exact Nat.ne_of_gt (blk_lt BK133.out) : gb139 ≠ gb133))
                    replace BK133 := bl_ BK133 hb
                    clear hb hbox hg
                    refine hK.out _ _ ⟨(blk_cell BK132.out 0).trans rfl, (blk_cell BK132.out 1).trans rfl⟩ (fun hHeld => ?_)
                    clear hK K
                    refine norm_ (a' := ?_) ?_ ?_
                    rotate_left
                    · show Act.put _ (some 12) _ = _
                      simp only [Act.put, List.setIfInBounds_toArray, List.set_cons_zero, List.set_cons_succ, i64_w, i32_w]
                      rfl
                    exact norm_ (by simp only [putAll, Act.put, List.setIfInBounds_toArray, List.set_cons_zero, List.set_cons_succ]) (hCont (.slice Ao45 t136.length co45, gb139) _ ⟨hHeld, (by (with_reducible repeat (first | apply Kd.R_alloc | apply Kd.R_drewN | apply Kd.R_drew)); exact HO138.out), (by (with_reducible repeat (first | refine blk_drewN ?_ _ | refine blk_drew ?_ | refine blk_alloc ?_ _)); exact BK132.out), (by (with_reducible repeat (first | refine blk_drewN ?_ _ | refine blk_drew ?_ | refine blk_alloc ?_ _)); exact BK133.out), (by (with_reducible repeat (first | refine blk_drewN ?_ _ | refine blk_drew ?_ | refine blk_alloc ?_ _)); exact BK139.out), GW139.out, GE139.out, NB132_139.out, NB139_132.out, NB133_139.out, NB139_133.out, (by repeat (with_reducible first | exact HB.out | apply pw_below_drewN | apply below_drew1 | refine below_set ?_ (Aside0.out (by assumption))))⟩)
                  · skip
                    refine box_step ?hg (N := 12) ?hd (cs := #[.int .i64 0, .slice none 0 0]) (t := 24) ?hr ?_; (case hd => rfl); (case hg => rfl); (case hr => first | (go_simp; done) | (go_simp; rfl))
                    intro gb139 hg w44 hbox hb
                    have BK139 := Aside0.mk (hbox)
                    have GW139 := Aside0.mk ((by rw [hg]; exact (below_size (by repeat (with_reducible first | exact HB.out | apply pw_below_drewN | apply below_drew1 | refine below_set ?_ (Aside0.out (by assumption))))) : w.heap.size ≤ gb139))
                    have GE139 := Aside0.mk ((by rw [hg]; exact (below_size (by repeat (with_reducible first | exact HB.out | apply pw_below_drewN | apply below_drew1 | refine below_set ?_ (Aside0.out (by assumption))))) : w.heap.size ≤ gb139))
                    replace HB := Aside0.mk (below_step (by repeat (with_reducible first | exact HB.out | apply pw_below_drewN | apply below_drew1 | refine below_set ?_ (Aside0.out (by assumption)))) hb)
                    have NB132_139 := Aside0.mk ((by rw [hg]; exact Nat.ne_of_lt (blk_lt BK132.out) : gb132 ≠ gb139))
                    have NB139_132 := Aside0.mk ((by rw [hg]; exact Nat.ne_of_gt (blk_lt BK132.out) : gb139 ≠ gb132))
                    replace BK132 := bl_ BK132 hb
                    have NB133_139 := Aside0.mk ((by rw [hg]; exact Nat.ne_of_lt (blk_lt BK133.out) : gb133 ≠ gb139))
                    have NB139_133 := Aside0.mk ((by rw [hg]; exact Nat.ne_of_gt (blk_lt BK133.out) : gb139 ≠ gb133))
                    replace BK133 := bl_ BK133 hb
                    clear hb hbox hg
                    refine hK.out _ _ ⟨(blk_cell BK132.out 0).trans rfl, (blk_cell BK132.out 1).trans rfl⟩ (fun hHeld => ?_)
                    clear hK K
                    refine norm_ (a' := ?_) ?_ ?_
                    rotate_left
                    · show Act.put _ (some 12) _ = _
                      simp only [Act.put, List.setIfInBounds_toArray, List.set_cons_zero, List.set_cons_succ, i64_w, i32_w]
                      rfl
                    refine one_ (i := 4) (N := some 60) #[true, true, true, true, true, false, true, false] rfl rfl (one_of HT_.out (by kernel_rfl)) (by decide) (fun K hK => ?_)
                    refine goes_ Try.func9 (by kernel_rfl) rfl #[.slice A0_1 l0_1.length c0_1] (by rfl) rfl rfl (by (try simp only [List.map_toArray, List.map_cons, List.map_nil]); first | done | rfl | (simp only [List.length_drop, List.length_take]; rfl)) ?_
                    with_reducible refine (watchmanref21_Own.calls _ _ l0_1 t136 _ ?side1 ?side2 A40.out).mono ?_
                    (case side1 => exact (Kd.C_below HR0_1.out HB.out))
                    (case side2 => exact HC0_1.out)
                    rintro e w45 ⟨v137, rfl, ho0, hb⟩
                    refine ⟨_, rfl, ?_⟩
                    have HO138 := Aside0.mk (Kd.R_lower ho0 (below_size (by repeat (with_reducible first | exact HB.out | apply pw_below_drewN | apply below_drew1 | refine below_set ?_ (Aside0.out (by assumption))))))
                    replace BK132 := bl_ BK132 hb
                    replace BK133 := bl_ BK133 hb
                    replace BK139 := bl_ BK139 hb
                    replace HB := Aside0.mk (below_step (by repeat (with_reducible first | exact HB.out | apply pw_below_drewN | apply below_drew1 | refine below_set ?_ (Aside0.out (by assumption)))) hb)
                    (try clear hb)
                    (try clear hb2)
                    (try clear hk)
                    (try clear hi)
                    (try clear ho0)
                    obtain ⟨Ao46, co46, eo46⟩ := Kd.R_slice HO138.out
                    (first | subst eo46 | (injection eo46 with f1_ f2_ f3_; have f4_ := f1_.symm; have f5_ := f3_.symm; clear f1_ f2_ f3_; subst f4_; subst f5_))
                    refine hK.out _ _ ⟨(blk_cell BK132.out 0).trans rfl, (blk_cell BK132.out 1).trans rfl⟩ (fun hHeld => ?_)
                    clear hK K
                    refine norm_ (a' := ?_) ?_ ?_
                    rotate_left
                    · show Act.put _ (some 60) _ = _
                      simp only [Act.put, List.setIfInBounds_toArray, List.set_cons_zero, List.set_cons_succ, i64_w, i32_w]
                      rfl
                    refine pure_ (i := 5) (N := some 61) (v := ?_) (a' := ?_) (dn_ 7 8) rfl rfl (any_of HT_.out (by kernel_rfl)) (fun _ _ _ h => h) (Or.inl ⟨by rfl, ?_⟩) ?_ ?_
                    rotate_left
                    · intro w'
                      go_simp
                      with_reducible rfl
                    rotate_left; (simp only [Act.put, List.setIfInBounds_toArray, List.set_cons_zero, List.set_cons_succ, i64_w, i32_w]; rfl)
                    exact norm_ (by simp only [putAll, Act.put, List.setIfInBounds_toArray, List.set_cons_zero, List.set_cons_succ]) (hCont (.slice Ao46 t136.length co46, gb139) _ ⟨hHeld, (by (with_reducible repeat (first | apply Kd.R_alloc | apply Kd.R_drewN | apply Kd.R_drew)); exact HO138.out), (by (with_reducible repeat (first | refine blk_drewN ?_ _ | refine blk_drew ?_ | refine blk_alloc ?_ _)); exact BK132.out), (by (with_reducible repeat (first | refine blk_drewN ?_ _ | refine blk_drew ?_ | refine blk_alloc ?_ _)); exact BK133.out), (by (with_reducible repeat (first | refine blk_drewN ?_ _ | refine blk_drew ?_ | refine blk_alloc ?_ _)); exact BK139.out), GW139.out, GE139.out, NB132_139.out, NB139_132.out, NB133_139.out, NB139_133.out, (by repeat (with_reducible first | exact HB.out | apply pw_below_drewN | apply below_drew1 | refine below_set ?_ (Aside0.out (by assumption))))⟩)
                rintro ⟨v137, gb139⟩ w47 ⟨hS_, h0_, h1_, h2_, h3_, h4_, h5_, h6_, h7_, h8_, h9_, h10_⟩
                have n0_ : Aside0 (Kd.R k35 35 w47 w.heap.size (fun _ => True) v137 t136) := ⟨h0_⟩
                have n1_ : Aside0 (w47.heap[gb132]? = some (.cells #[.int .i64 a0_0, .slice A0_1 l0_1.length c0_1] 24 (0, 0))) := ⟨h1_⟩
                have n2_ : Aside0 (w47.heap[gb133]? = some (.cells #[.int .i64 x134000_2, .slice none 0 0] 24 (0, 0))) := ⟨h2_⟩
                have n3_ : Aside0 (w47.heap[gb139]? = some (.cells #[.int .i64 0, .slice none 0 0] 24 (0, 0))) := ⟨h3_⟩
                have n4_ : Aside0 (w.heap.size ≤ gb139) := ⟨h4_⟩
                have n5_ : Aside0 (w.heap.size ≤ gb139) := ⟨h5_⟩
                have n6_ : Aside0 (gb132 ≠ gb139) := ⟨h6_⟩
                have n7_ : Aside0 (gb139 ≠ gb132) := ⟨h7_⟩
                have n8_ : Aside0 (gb133 ≠ gb139) := ⟨h8_⟩
                have n9_ : Aside0 (gb139 ≠ gb133) := ⟨h9_⟩
                have n10_ : Aside0 (Below w.heap.size w w47) := ⟨h10_⟩
                clear BK132
                clear BK133
                clear HB
                clear h0_ h1_ h2_ h3_ h4_ h5_ h6_ h7_ h8_ h9_ h10_
                have HO138 := n0_
                have BK132 := n1_
                have BK133 := n2_
                have BK139 := n3_
                have GW139 := n4_
                have GE139 := n5_
                have NB132_139 := n6_
                have NB139_132 := n7_
                have NB133_139 := n8_
                have NB139_133 := n9_
                have HB := n10_
                clear n0_ n1_ n2_ n3_ n4_ n5_ n6_ n7_ n8_ n9_ n10_
                have hHeld : w47.cell? ⟨gb132, 0, none⟩ = some (.int .i64 a0_0) ∧ w47.cell? ⟨gb132, 1, none⟩ = some (.slice A0_1 l0_1.length c0_1) := hS_
                obtain ⟨Ao48, co48, eo48⟩ := Kd.R_slice HO138.out
                (first | subst eo48 | (injection eo48 with f1_ f2_ f3_; have f4_ := f1_.symm; have f5_ := f3_.symm; clear f1_ f2_ f3_; subst f4_; subst f5_))
                refine norm_ (a' := ?_) ?_ ?_
                rotate_left; (simp only [putAll, Act.put, List.setIfInBounds_toArray, List.set_cons_zero, List.set_cons_succ]; rfl)
                refine one_ (i := 7) (N := none) #[true, true, true, true, true, true, true, true] rfl rfl (one_of HT_.out (by kernel_rfl)) (by decide) (fun K hK => ?_)
                have hs49 : w47.cell? ⟨gb139, 0, none⟩ = some (.int .i64 0) := (blk_cell BK139.out 0).trans rfl
                have hfs49 := blk_frozen BK139.out 0
                have hns49_0 := NB132_139.out
                have hns49_1 := NB133_139.out
                have hms49_0 := NB139_132.out
                have hms49_1 := NB139_133.out
                have hs50 : w47.cell? ⟨gb139, 1, none⟩ = some (.slice none 0 0) := (blk_cell BK139.out 1).trans rfl
                have hfs50 := blk_frozen BK139.out 1
                have hns50_0 := NB132_139.out
                have hns50_1 := NB133_139.out
                have hms50_0 := NB139_132.out
                have hms50_1 := NB139_133.out
                refine skip_ (w1 := ?_) (by rfl) rfl ?_ ?_
                rotate_left
                · go_simp
                  rfl
                refine hK.out _ _ ⟨((cell_far (p := ⟨gb139, _, none⟩) NB132_139.out _).trans (((cell_far (p := ⟨gb139, _, none⟩) NB132_139.out _).trans (hHeld.1)))), ((cell_far (p := ⟨gb139, _, none⟩) NB132_139.out _).trans (((cell_far (p := ⟨gb139, _, none⟩) NB132_139.out _).trans (hHeld.2))))⟩ (fun hHeld => ?_)
                clear hK K
                refine done_ (done_of HT_.out (by kernel_rfl)) ?_
                try go_wp2
                go_loopg [13, 14] k2 (fun kq v13 v14 w' => ∃ (x13_3 : Int) (x14_3 : Int) (x140000_3 : Int) (x140001_3 : List (S35)) (u140001 : Value), v13 = .int .i64 x13_3 ∧ v14 = .int .i64 x14_3 ∧ Aside0 (watchmanref21_Send.l1 kq a1 a2 l3 x13_3 x14_3 x140000_3 x140001_3 = some (r1, r2, r3, r4)) ∧ Aside0 (kq ≤ k2) ∧ Aside0 (Kd.R k35 35 w' w.heap.size (fun _ => True) u140001 x140001_3) ∧ Aside0 (w'.heap[gb132]? = some (.cells #[.int .i64 a0_0, (.slice A0_1 l0_1.length c0_1)] 24 (0, 0))) ∧ Aside0 (w'.heap[gb133]? = some (.cells #[.int .i64 x134000_2, (.slice none 0 0)] 24 (0, 0))) ∧ Aside0 (w'.heap[gb139]? = some (.cells #[.int .i64 x140000_3, u140001] 24 (0, 0))) ∧ Aside0 (Below w.heap.size w w'))
                case atStart => exact ⟨(0), (0), (a0_0), (t136), (.slice Ao48 t136.length co48), (by first | rfl | (simp; done) | (simp [*]; done)), (by first | rfl | (simp; done) | (simp [*]; done)), H', ⟨Nat.le_refl _⟩, ⟨by (with_reducible repeat (first | apply Kd.R_alloc | apply Kd.R_drewN | apply Kd.R_drew)); exact Kd.R_mono (rf2 (Kd.R_types HO138.out BK139.out (by decide)) (fun _ hk => hk.2) (.int .i64 a0_0) (.slice Ao48 t136.length co48)) (fun _ hk => trivial)⟩, ⟨by (with_reducible repeat (first | refine blk_drewN ?_ _ | refine blk_drew ?_ | refine blk_alloc ?_ _)); refine blk_far ?_ NB132_139.out _; (with_reducible repeat (first | refine blk_drewN ?_ _ | refine blk_drew ?_ | refine blk_alloc ?_ _)); refine blk_far ?_ NB132_139.out _; (with_reducible repeat (first | refine blk_drewN ?_ _ | refine blk_drew ?_ | refine blk_alloc ?_ _)); exact BK132.out⟩, ⟨by (with_reducible repeat (first | refine blk_drewN ?_ _ | refine blk_drew ?_ | refine blk_alloc ?_ _)); refine blk_far ?_ NB133_139.out _; (with_reducible repeat (first | refine blk_drewN ?_ _ | refine blk_drew ?_ | refine blk_alloc ?_ _)); refine blk_far ?_ NB133_139.out _; (with_reducible repeat (first | refine blk_drewN ?_ _ | refine blk_drew ?_ | refine blk_alloc ?_ _)); exact BK133.out⟩, ⟨by (with_reducible repeat (first | refine blk_drewN ?_ _ | refine blk_drew ?_ | refine blk_alloc ?_ _)); refine blk_put (cs := #[.int .i64 a0_0, .slice none 0 0]) ?_ 1 _ rfl; (with_reducible repeat (first | refine blk_drewN ?_ _ | refine blk_drew ?_ | refine blk_alloc ?_ _)); refine blk_put (cs := #[.int .i64 0, .slice none 0 0]) ?_ 0 _ rfl; (with_reducible repeat (first | refine blk_drewN ?_ _ | refine blk_drew ?_ | refine blk_alloc ?_ _)); exact BK139.out⟩, ⟨by repeat (with_reducible first | exact HB.out | apply pw_below_drewN | apply below_drew1 | refine below_set ?_ (Aside0.out (by assumption)))⟩⟩
                case round =>
                  clear H'
                  try clear c1
                  try clear p1
                  try clear q1
                  try clear hx1
                  try clear c2
                  try clear p2
                  try clear c3
                  try clear c4
                  try clear p6
                  try clear c9
                  try clear c10
                  try clear c10b0
                  try clear c11
                  try clear p13
                  try clear q13
                  try clear hx13
                  try clear c14
                  try clear c14b0
                  try clear c15
                  try clear c18
                  try clear c18b0
                  try clear c19
                  try clear c22
                  try clear c25
                  try clear c26
                  try clear c28
                  try clear c29
                  try clear c31
                  try clear c31b0
                  try clear c32
                  try clear c32b0
                  try clear c33
                  try clear c33b0
                  try clear c33b1
                  try clear c34
                  try clear c36
                  try clear c36b0
                  try clear c37
                  try clear c41
                  try clear hcz12_0
                  try clear hcz12_1
                  try clear hcz16_0
                  try clear hcz16_1
                  try clear hcz20_0
                  try clear hcz20_1
                  try clear hcz23_0
                  try clear hcz23_1
                  try clear hcz26_0
                  try clear hcz26_1
                  try clear hcz30_0
                  try clear hcz30_1
                  try clear hcz35_0
                  try clear hcz35_1
                  try clear hcz38_0
                  try clear hcz38_1
                  try clear hcz39_0
                  try clear hcz39_1
                  try clear hcz42_0
                  try clear hcz42_1
                  try clear hfz12_0
                  try clear hfz12_1
                  try clear hfz16_0
                  try clear hfz16_1
                  try clear hfz20_0
                  try clear hfz20_1
                  try clear hfz23_0
                  try clear hfz23_1
                  try clear hfz26_0
                  try clear hfz26_1
                  try clear hfz30_0
                  try clear hfz30_1
                  try clear hfz35_0
                  try clear hfz35_1
                  try clear hfz38_0
                  try clear hfz38_1
                  try clear hfz39_0
                  try clear hfz39_1
                  try clear hfz42_0
                  try clear hfz42_1
                  try clear hx135_0
                  try clear p135
                  try clear p2
                  try clear q135
                  obtain ⟨x13_3, x14_3, x140000_3, x140001_3, u140001, rfl, rfl, HA, HK3, HO_140001, BK132, BK133, BK139, HB⟩ := hrel
                  cases gk with
                  | zero => exact absurd HA.out (by simp [watchmanref21_Send.l1])
                  | succ k3 =>
                    have H := HA.out
                    clear HA
                    simp only [watchmanref21_Send.l1] at H
                    by_cases c51 : x14_3 < (l3.length : Int)
                    · rw [if_pos c51] at H
                      have c51b0 : decide (x14_3 < (l3.length : Int)) = true := decide_eq_true c51
                      clear c51
                      have H' := Aside0.mk H
                      clear H
                      go_wp2
                      go_loopg [13] k3 (fun kq v13 w' => ∃ (x13_4 : Int) (x140001_4 : List (S35)) (u140001 : Value), v13 = .int .i64 x13_4 ∧ Aside0 (watchmanref21_Send.l2 kq a1 a2 l3 x13_4 x14_3 x140000_3 x140001_4 = some (r1, r2, r3, r4)) ∧ Aside0 (kq ≤ k3) ∧ Aside0 (Kd.R k35 35 w' w.heap.size (fun _ => True) u140001 x140001_4) ∧ Aside0 (w'.heap[gb132]? = some (.cells #[.int .i64 a0_0, (.slice A0_1 l0_1.length c0_1)] 24 (0, 0))) ∧ Aside0 (w'.heap[gb133]? = some (.cells #[.int .i64 x134000_2, (.slice none 0 0)] 24 (0, 0))) ∧ Aside0 (w'.heap[gb139]? = some (.cells #[.int .i64 x140000_3, u140001] 24 (0, 0))) ∧ Aside0 (Below w.heap.size w w'))
                      case atStart => exact ⟨(x13_3), (x140001_3), (u140001), (by first | rfl | (simp; done) | (simp [*]; done)), H', ⟨Nat.le_refl _⟩, ⟨by (with_reducible repeat (first | apply Kd.R_alloc | apply Kd.R_drewN | apply Kd.R_drew)); exact HO_140001.out⟩, ⟨by (with_reducible repeat (first | refine blk_drewN ?_ _ | refine blk_drew ?_ | refine blk_alloc ?_ _)); exact BK132.out⟩, ⟨by (with_reducible repeat (first | refine blk_drewN ?_ _ | refine blk_drew ?_ | refine blk_alloc ?_ _)); exact BK133.out⟩, ⟨by (with_reducible repeat (first | refine blk_drewN ?_ _ | refine blk_drew ?_ | refine blk_alloc ?_ _)); exact BK139.out⟩, ⟨by repeat (with_reducible first | exact HB.out | apply pw_below_drewN | apply below_drew1 | refine below_set ?_ (Aside0.out (by assumption)))⟩⟩
                      case round =>
                        clear H'
                        try clear c1
                        try clear p1
                        try clear q1
                        try clear hx1
                        try clear c2
                        try clear p2
                        try clear c3
                        try clear c4
                        try clear c5
                        try clear p6
                        try clear c9
                        try clear c10
                        try clear c10b0
                        try clear c11
                        try clear p13
                        try clear q13
                        try clear hx13
                        try clear c14
                        try clear c14b0
                        try clear c15
                        try clear c18
                        try clear c18b0
                        try clear c19
                        try clear c22
                        try clear c25
                        try clear c26
                        try clear c28
                        try clear c29
                        try clear c31
                        try clear c31b0
                        try clear c32
                        try clear c32b0
                        try clear c33
                        try clear c33b0
                        try clear c33b1
                        try clear c34
                        try clear c36
                        try clear c36b0
                        try clear c37
                        try clear c41
                        try clear c51
                        try clear c51b0
                        try clear hcz12_0
                        try clear hcz12_1
                        try clear hcz16_0
                        try clear hcz16_1
                        try clear hcz20_0
                        try clear hcz20_1
                        try clear hcz23_0
                        try clear hcz23_1
                        try clear hcz26_0
                        try clear hcz26_1
                        try clear hcz30_0
                        try clear hcz30_1
                        try clear hcz35_0
                        try clear hcz35_1
                        try clear hcz38_0
                        try clear hcz38_1
                        try clear hcz39_0
                        try clear hcz39_1
                        try clear hcz42_0
                        try clear hcz42_1
                        try clear hfz12_0
                        try clear hfz12_1
                        try clear hfz16_0
                        try clear hfz16_1
                        try clear hfz20_0
                        try clear hfz20_1
                        try clear hfz23_0
                        try clear hfz23_1
                        try clear hfz26_0
                        try clear hfz26_1
                        try clear hfz30_0
                        try clear hfz30_1
                        try clear hfz35_0
                        try clear hfz35_1
                        try clear hfz38_0
                        try clear hfz38_1
                        try clear hfz39_0
                        try clear hfz39_1
                        try clear hfz42_0
                        try clear hfz42_1
                        try clear hx135_0
                        try clear p1
                        try clear p13
                        try clear p135
                        try clear p2
                        try clear p6
                        try clear q1
                        try clear q13
                        try clear q135
                        obtain ⟨x13_4, x140001_4, u140001, rfl, HA, HK4, HO_140001, BK132, BK133, BK139, HB⟩ := hrel
                        cases gk with
                        | zero => exact absurd HA.out (by simp [watchmanref21_Send.l2])
                        | succ k4 =>
                          have H := HA.out
                          clear HA
                          simp only [watchmanref21_Send.l2] at H
                          replace H := Option.bind_eq_some_iff.mp H
                          obtain ⟨t140, A520, H⟩ := H
                          replace H : (if (t140.length : Int) ≥ 20 then ((watchmanref21_To.f k4 x140000_3 x140001_4 a2).bind fun t143 => (if 0 < (t143.length : Int) then ((watchmanref21_without.f k4 x140001_4 ((rd_T35 t143 0).f0)).bind fun t147 => (watchmanref21_Send.l2 k4 a1 a2 l3 (wrap64 (x13_4 + 1)) x14_3 x140000_3 t147)) else (none))) else (if (x140001_4.length : Int) ≥ 200 then (watchmanref21_Send.l1 k4 a1 a2 l3 (wrap64 (x13_4 + 1)) (wrap64 (x14_3 + 1)) (wrap64 (x140000_3 + 1)) x140001_4) else (if 0 ≤ x14_3 then (if x14_3 < (l3.length : Int) then (if x140001_4.length < 3518437208883 then (watchmanref21_Send.l1 k4 a1 a2 l3 x13_4 (wrap64 (x14_3 + 1)) (wrap64 (x140000_3 + 1)) (x140001_4 ++ [(⟨x140000_3, a1, a2, rdOf ByteArray.empty l3 x14_3⟩ : S35)])) else (none)) else (none)) else (none)))) = some (r1, r2, r3, r4) := H
                          have A52 := Aside0.mk A520
                          clear A520
                          by_cases c53 : (t140.length : Int) ≥ 20
                          · rw [if_pos c53] at H
                            have c53b0 : decide (20 ≤ (t140.length : Int)) = true := decide_eq_true c53
                            have c53b1 : decide (20 ≤ t140.length) = true := decide_eq_true (by omega)
                            clear c53
                            replace H := Option.bind_eq_some_iff.mp H
                            obtain ⟨t143, A540, H⟩ := H
                            replace H : (if 0 < (t143.length : Int) then ((watchmanref21_without.f k4 x140001_4 ((rd_T35 t143 0).f0)).bind fun t147 => (watchmanref21_Send.l2 k4 a1 a2 l3 (wrap64 (x13_4 + 1)) x14_3 x140000_3 t147)) else (none)) = some (r1, r2, r3, r4) := H
                            have A54 := Aside0.mk A540
                            clear A540
                            by_cases c55 : 0 < (t143.length : Int)
                            · rw [if_pos c55] at H
                              have c55b0 : decide (0 < (t143.length : Int)) = true := decide_eq_true c55
                              have c55b1 : decide (0 < t143.length) = true := decide_eq_true (by omega)
                              clear c55
                              replace H := Option.bind_eq_some_iff.mp H
                              obtain ⟨t147, A560, H⟩ := H
                              replace H : (watchmanref21_Send.l2 k4 a1 a2 l3 (wrap64 (x13_4 + 1)) x14_3 x140000_3 t147) = some (r1, r2, r3, r4) := H
                              have A56 := Aside0.mk A560
                              clear A560
                              have H' := Aside0.mk H
                              clear H
                              have hnb57 := NB139_132.out
                              have hnc57 := NB132_139.out
                              have hnb58 := NB139_133.out
                              have hnc58 := NB133_139.out
                              have hcz59_0 : wr.cell? ⟨gb139, 0, none⟩ = some (.int .i64 x140000_3) := (blk_cell BK139.out 0).trans rfl
                              have hcz59_1 : wr.cell? ⟨gb139, 1, none⟩ = some (u140001) := (blk_cell BK139.out 1).trans rfl
                              have hfz59_0 := blk_frozen BK139.out 0
                              have hfz59_1 := blk_frozen BK139.out 1
                              obtain ⟨Ao60, co60, eo60⟩ := Kd.R_slice HO_140001.out
                              subst eo60
                              try go_wp2_with (first | ((with_reducible refine gate_callee (f := 22) rfl ?_); refine goesL_ (some 70) rfl rfl Try.func22 (by kernel_rfl) rfl #[.agg #[.int .i64 x140000_3, .slice Ao60 x140001_4.length co60], .int .i64 a2] rfl (by (try simp only [List.map_toArray, List.map_cons, List.map_nil]); first | done | rfl | (simp only [List.length_drop, List.length_take]; rfl)) ?_; (with_reducible refine (watchmanref21_To.calls k4 x140000_3 _ _ x140001_4 a2 t140 _ ?side1 ?side2 A52.out).mono ?_); (case side1 => repeat (first | exact (Kd.R_reads' HO_140001.out).2.2 | (with_reducible refine Kd.C_alloc ?_ _) | (with_reducible refine Kd.C_drewN ?_ _) | (with_reducible refine Kd.C_drew ?_))); (case side2 => exact (Kd.R_reads' HO_140001.out).2.1); (try clear A52); rintro e w61 ⟨v141, rfl, ho0, hb⟩; refine ⟨_, rfl, ?_⟩; have HO142 := Aside0.mk (Kd.R_lower (Kd.R_new' ho0 (Kd.R_lt (HO_140001.out))) (below_size (by repeat (with_reducible first | exact HB.out | apply pw_below_drewN | apply below_drew1 | refine below_set ?_ (Aside0.out (by assumption)))))); replace HO_140001 := Aside0.mk (Kd.R_elder' (HO_140001.out) (Kd.R_base ho0) hb); replace BK132 := bl_ BK132 hb; replace BK133 := bl_ BK133 hb; replace BK139 := bl_ BK139 hb; replace HB := Aside0.mk (below_step (by repeat (with_reducible first | exact HB.out | apply pw_below_drewN | apply below_drew1 | refine below_set ?_ (Aside0.out (by assumption)))) hb); (try clear hb); (try clear hb2); (try clear hk); (try clear hi); (try clear ho0); obtain ⟨Ao62, co62, eo62⟩ := Kd.R_slice HO142.out; subst eo62; have hcz63_0 : w61.cell? ⟨gb139, 0, none⟩ = some (.int .i64 x140000_3) := (blk_cell BK139.out 0).trans rfl; have hcz63_1 : w61.cell? ⟨gb139, 1, none⟩ = some (.slice Ao60 x140001_4.length co60) := (blk_cell BK139.out 1).trans rfl; have hfz63_0 := blk_frozen BK139.out 0; have hfz63_1 := blk_frozen BK139.out 1) | ((with_reducible refine gate_callee (f := 22) rfl ?_); refine goesL_ (some 75) rfl rfl Try.func22 (by kernel_rfl) rfl #[.agg #[.int .i64 x140000_3, .slice Ao60 x140001_4.length co60], .int .i64 a2] rfl (by (try simp only [List.map_toArray, List.map_cons, List.map_nil]); first | done | rfl | (simp only [List.length_drop, List.length_take]; rfl)) ?_; (with_reducible refine (watchmanref21_To.calls k4 x140000_3 _ _ x140001_4 a2 t143 _ ?side1 ?side2 A54.out).mono ?_); (case side1 => repeat (first | exact (Kd.R_reads' HO_140001.out).2.2 | (with_reducible refine Kd.C_alloc ?_ _) | (with_reducible refine Kd.C_drewN ?_ _) | (with_reducible refine Kd.C_drew ?_))); (case side2 => exact (Kd.R_reads' HO_140001.out).2.1); (try clear A54); rintro e w64 ⟨v144, rfl, ho0, hb⟩; refine ⟨_, rfl, ?_⟩; have HO145 := Aside0.mk (Kd.R_lower (Kd.R_new' (Kd.R_new' ho0 (Kd.R_lt (HO_140001.out))) (Kd.R_lt (HO142.out))) (below_size (by repeat (with_reducible first | exact HB.out | apply pw_below_drewN | apply below_drew1 | refine below_set ?_ (Aside0.out (by assumption)))))); replace HO_140001 := Aside0.mk (Kd.R_elder' (HO_140001.out) (Kd.R_base ho0) hb); replace HO142 := Aside0.mk (Kd.R_elder' (HO142.out) (Kd.R_base ho0) hb); replace BK132 := bl_ BK132 hb; replace BK133 := bl_ BK133 hb; replace BK139 := bl_ BK139 hb; replace HB := Aside0.mk (below_step (by repeat (with_reducible first | exact HB.out | apply pw_below_drewN | apply below_drew1 | refine below_set ?_ (Aside0.out (by assumption)))) hb); (try clear hb); (try clear hb2); (try clear hk); (try clear hi); (try clear ho0)))
                              replace HO_140001 := Aside0.mk (Kd.R_drew HO_140001.out)
                              replace HO142 := Aside0.mk (Kd.R_drew HO142.out)
                              replace HO145 := Aside0.mk (Kd.R_drew HO145.out)
                              replace BK132 := Aside0.mk (blk_drew BK132.out)
                              replace BK133 := Aside0.mk (blk_drew BK133.out)
                              replace BK139 := Aside0.mk (blk_drew BK139.out)
                              replace HB := Aside0.mk (below_drew1 HB.out)
                              obtain ⟨Ao66, co66, eo66⟩ := Kd.R_slice HO145.out
                              (first | subst eo66 | (injection eo66 with f1_ f2_ f3_; have f4_ := f1_.symm; have f5_ := f3_.symm; clear f1_ f2_ f3_; subst f4_; subst f5_))
                              have p146 : 0 ≤ (0 : Int) := (by omega)
                              have q146 : 0 < (t143.length : Int) := of_decide_eq_true (by first | (with_reducible assumption) | assumption)
                              obtain ⟨ad146, e146, hx146_0, hx146_1, hx146_2, hx146_3⟩ := at_T35 (Kd.R_reads' HO145.out).2.2 0 p146 q146
                              cases e146
                              have qi146 : (0 < t143.length) = True := eq_true (by omega)
                              (try rw [show ((0 : Int)).toNat = 0 from rfl] at hx146_0)
                              (try rw [show 0 * 4 = 0 from rfl] at hx146_0)
                              (try rw [Addr.add_zero'] at hx146_0)
                              (try rw [show ((0 : Int)).toNat = 0 from rfl] at hx146_1)
                              (try rw [show 0 * 4 = 0 from rfl] at hx146_1)
                              (try rw [Addr.add_zero'] at hx146_1)
                              (try rw [show ((0 : Int)).toNat = 0 from rfl] at hx146_2)
                              (try rw [show 0 * 4 = 0 from rfl] at hx146_2)
                              (try rw [Addr.add_zero'] at hx146_2)
                              (try rw [show ((0 : Int)).toNat = 0 from rfl] at hx146_3)
                              (try rw [show 0 * 4 = 0 from rfl] at hx146_3)
                              (try rw [Addr.add_zero'] at hx146_3)
                              replace p146 := eq_true p146
                              replace q146 := eq_true q146
                              refine start_ (n := 9) (S := fun w' => w'.cell? ⟨gb139, 0, none⟩ = some (.int .i64 x140000_3) ∧ w'.cell? ⟨gb139, 1, none⟩ = some (.slice Ao60 x140001_4.length co60) ∧ w'.cell? ad146 = some (.int .i64 ((rd_T35 t143 0).f0)) ∧ w'.cell? ⟨ad146.block, ad146.off + 1, none⟩ = some (.int .i64 ((rd_T35 t143 0).f1)) ∧ w'.cell? ⟨ad146.block, ad146.off + 2, none⟩ = some (.int .i64 ((rd_T35 t143 0).f2)) ∧ w'.cell? ⟨ad146.block, ad146.off + 3, none⟩ = some (.string ((rd_T35 t143 0).f3))) (ds := [8]) #[false, false, false, false, false, false, false, false, false] (by kernel_rfl) rfl rfl ⟨(blk_cell BK139.out 0).trans rfl, (blk_cell BK139.out 1).trans rfl, hx146_0, hx146_1, hx146_2, hx146_3⟩ (fun hHeld => ?_); refine with_tabW watchmanref21_Send.tab17 watchmanref21_Send.bits17 (fun HT_ HW_ => ?_)
                              generalize w64.drew = w65 at HO_140001 HO142 HO145 BK132 BK133 BK139 HB hx146_0 hx146_1 hx146_2 hx146_3 hHeld ⊢
                              refine pure_ (i := 0) (N := some 76) (v := ?_) (a' := ?_) (dn_ 1 9) rfl rfl (any_of HT_.out (by kernel_rfl)) (fun _ _ _ h => h) (Or.inl ⟨by rfl, ?_⟩) ?_ ?_
                              rotate_left
                              · intro w'
                                go_simp
                                with_reducible rfl
                              rotate_left; (simp only [Act.put, List.setIfInBounds_toArray, List.set_cons_zero, List.set_cons_succ, i64_w, i32_w]; rfl)
                              refine pure_ (i := 2) (N := some 78) (v := ?_) (a' := ?_) #[true, false, true, false, false, false, false, false, false] rfl rfl (any_of HT_.out (by kernel_rfl)) (fun _ _ _ h => h) (Or.inl ⟨by rfl, ?_⟩) ?_ ?_
                              rotate_left
                              · intro w'
                                go_simp
                                with_reducible rfl
                              rotate_left; (simp only [Act.put, List.setIfInBounds_toArray, List.set_cons_zero, List.set_cons_succ, i64_w, i32_w]; rfl)
                              refine pure_ (i := 3) (N := some 79) (v := ?_) (a' := ?_) #[true, false, true, true, false, false, false, false, false] rfl rfl (any_of HT_.out (by kernel_rfl)) (fun _ _ _ h => h) (Or.inl ⟨by rfl, ?_⟩) ?_ ?_
                              rotate_left
                              · intro w'
                                go_simp
                                with_reducible rfl
                              rotate_left; (simp only [Act.put, List.setIfInBounds_toArray, List.set_cons_zero, List.set_cons_succ, i64_w, i32_w]; rfl)
                              refine pure_ (i := 4) (N := some 80) (v := ?_) (a' := ?_) #[true, false, true, true, true, false, false, false, false] rfl rfl (any_of HT_.out (by kernel_rfl)) (fun _ _ _ h => h) (Or.inl ⟨by rfl, ?_⟩) ?_ ?_
                              rotate_left
                              · intro w'
                                go_simp
                                with_reducible rfl
                              rotate_left; (simp only [Act.put, List.setIfInBounds_toArray, List.set_cons_zero, List.set_cons_succ, i64_w, i32_w]; rfl)
                              refine take_ (i := 1) (N := some 77) (v := ?_) (a' := ?_) (dn_ 5 9) rfl rfl (take_ofW HT_.out HW_.out (by kernel_rfl)) (fun _ _ _ h => h) (Or.inl ⟨by rfl, ?_⟩) hHeld ?_ ?_
                              rotate_left
                              · rintro w' ⟨s0, s1, s2, s3, s4, s5⟩
                                go_simp
                                with_reducible rfl
                              rotate_left; (simp only [Act.put, List.setIfInBounds_toArray, List.set_cons_zero, List.set_cons_succ, i64_w, i32_w]; rfl)
                              refine take_ (i := 5) (N := some 81) (v := ?_) (a' := ?_) (dn_ 6 9) rfl rfl (take_ofW HT_.out HW_.out (by kernel_rfl)) (fun _ _ _ h => h) (Or.inl ⟨by rfl, ?_⟩) hHeld ?_ ?_
                              rotate_left
                              · rintro w' ⟨s0, s1, s2, s3, s4, s5⟩
                                go_simp
                                with_reducible rfl
                              rotate_left; (simp only [Act.put, List.setIfInBounds_toArray, List.set_cons_zero, List.set_cons_succ, i64_w, i32_w]; rfl)
                              refine one_ (i := 6) (N := some 82) (dn_ 7 9) rfl rfl (one_of HT_.out (by kernel_rfl)) (by decide) (fun K hK => ?_)
                              refine goes_ Try.func33 (by kernel_rfl) rfl #[.slice Ao60 x140001_4.length co60, .int .i64 ((rd_T35 t143 0).f0)] (by rfl) rfl rfl (by (try simp only [List.map_toArray, List.map_cons, List.map_nil]); first | done | rfl | (simp only [List.length_drop, List.length_take]; rfl)) ?_
                              with_reducible refine (watchmanref21_without.calls k4 _ _ x140001_4 ((rd_T35 t143 0).f0) t147 _ ?side1 ?side2 A56.out).mono ?_
                              (case side1 => repeat (first | exact (Kd.R_reads' HO_140001.out).2.2 | (with_reducible refine Kd.C_alloc ?_ _) | (with_reducible refine Kd.C_drewN ?_ _) | (with_reducible refine Kd.C_drew ?_)))
                              (case side2 => exact (Kd.R_reads' HO_140001.out).2.1)
                              rintro e w67 ⟨v148, rfl, ho0, hb⟩
                              have HS2_ := (hb.cell (World.block_lt_of_cell? _ _ (hHeld.2.2.1))).trans (hHeld.2.2.1)
                              have HS3_ := (hb.cell (World.block_lt_of_cell? _ _ (hHeld.2.2.2.1))).trans (hHeld.2.2.2.1)
                              have HS4_ := (hb.cell (World.block_lt_of_cell? _ _ (hHeld.2.2.2.2.1))).trans (hHeld.2.2.2.2.1)
                              have HS5_ := (hb.cell (World.block_lt_of_cell? _ _ (hHeld.2.2.2.2.2))).trans (hHeld.2.2.2.2.2)
                              refine ⟨_, rfl, ?_⟩
                              have HO149 := Aside0.mk (Kd.R_lower (Kd.R_new' (Kd.R_new' (Kd.R_new' ho0 (Kd.R_lt (HO_140001.out))) (Kd.R_lt (HO142.out))) (Kd.R_lt (HO145.out))) (below_size (by repeat (with_reducible first | exact HB.out | apply pw_below_drewN | apply below_drew1 | refine below_set ?_ (Aside0.out (by assumption))))))
                              replace HO_140001 := Aside0.mk (Kd.R_elder' (HO_140001.out) (Kd.R_base ho0) hb)
                              replace HO142 := Aside0.mk (Kd.R_elder' (HO142.out) (Kd.R_base ho0) hb)
                              replace HO145 := Aside0.mk (Kd.R_elder' (HO145.out) (Kd.R_base ho0) hb)
                              replace BK132 := bl_ BK132 hb
                              replace BK133 := bl_ BK133 hb
                              replace BK139 := bl_ BK139 hb
                              replace HB := Aside0.mk (below_step (by repeat (with_reducible first | exact HB.out | apply pw_below_drewN | apply below_drew1 | refine below_set ?_ (Aside0.out (by assumption)))) hb)
                              (try clear hb)
                              (try clear hb2)
                              (try clear hk)
                              (try clear hi)
                              (try clear ho0)
                              obtain ⟨Ao68, co68, eo68⟩ := Kd.R_slice HO149.out
                              (first | subst eo68 | (injection eo68 with f1_ f2_ f3_; have f4_ := f1_.symm; have f5_ := f3_.symm; clear f1_ f2_ f3_; subst f4_; subst f5_))
                              refine hK.out _ _ ⟨(blk_cell BK139.out 0).trans rfl, (blk_cell BK139.out 1).trans rfl, HS2_, HS3_, HS4_, HS5_⟩ (fun hHeld => ?_)
                              clear hK K
                              refine norm_ (a' := ?_) ?_ ?_
                              rotate_left
                              · show Act.put _ (some 82) _ = _
                                simp only [Act.put, List.setIfInBounds_toArray, List.set_cons_zero, List.set_cons_succ, i64_w, i32_w]
                                rfl
                              refine pure_ (i := 7) (N := some 83) (v := ?_) (a' := ?_) (dn_ 8 9) rfl rfl (any_of HT_.out (by kernel_rfl)) (fun _ _ _ h => h) (Or.inl ⟨by rfl, ?_⟩) ?_ ?_
                              rotate_left
                              · intro w'
                                go_simp
                                with_reducible rfl
                              rotate_left; (simp only [Act.put, List.setIfInBounds_toArray, List.set_cons_zero, List.set_cons_succ, i64_w, i32_w]; rfl)
                              refine last_ (i := 8) (N := none) #[true, true, true, true, true, true, true, true, true] rfl rfl (one_of HT_.out (by kernel_rfl)) (by decide) (fun K hK => ?_)
                              have hs69 : w67.cell? ⟨gb139, 1, none⟩ = some (.slice Ao60 x140001_4.length co60) := (blk_cell BK139.out 1).trans rfl
                              have hfs69 := blk_frozen BK139.out 1
                              have hns69_0 := NB132_139.out
                              have hns69_1 := NB133_139.out
                              have hms69_0 := NB139_132.out
                              have hms69_1 := NB139_133.out
                              refine skip_ (w1 := ?_) (by rfl) rfl ?_ ?_
                              rotate_left
                              · go_simp
                                rfl
                              refine hK.out _ _ ?_
                              clear hK K
                              refine done_ (done_of HT_.out (by kernel_rfl)) ?_
                              try go_wp2
                              go_roundg k4
                              case measure => have := HJ4.out; have := HK2.out; have := HK3.out; have := HK4.out; omega
                              case rel => exact ⟨(wrap64 (x13_4 + 1)), (t147), (.slice Ao68 t147.length co68), (by first | rfl | (simp; done) | (simp [*]; done)), H', ⟨by have := HJ4.out; have := HK2.out; have := HK3.out; have := HK4.out; omega⟩, ⟨by (with_reducible repeat (first | apply Kd.R_alloc | apply Kd.R_drewN | apply Kd.R_drew)); exact Kd.R_mono (Kd.R_far (p := ⟨gb139, 1, none⟩) (Kd.R_types HO149.out BK139.out (by decide)) (fun _ hk => hk.2) (.slice Ao68 t147.length co68)) (fun _ hk => trivial)⟩, ⟨by (with_reducible repeat (first | refine blk_drewN ?_ _ | refine blk_drew ?_ | refine blk_alloc ?_ _)); refine blk_far ?_ NB132_139.out _; (with_reducible repeat (first | refine blk_drewN ?_ _ | refine blk_drew ?_ | refine blk_alloc ?_ _)); exact BK132.out⟩, ⟨by (with_reducible repeat (first | refine blk_drewN ?_ _ | refine blk_drew ?_ | refine blk_alloc ?_ _)); refine blk_far ?_ NB133_139.out _; (with_reducible repeat (first | refine blk_drewN ?_ _ | refine blk_drew ?_ | refine blk_alloc ?_ _)); exact BK133.out⟩, ⟨by (with_reducible repeat (first | refine blk_drewN ?_ _ | refine blk_drew ?_ | refine blk_alloc ?_ _)); refine blk_put (cs := #[.int .i64 x140000_3, .slice Ao60 x140001_4.length co60]) ?_ 1 _ rfl; (with_reducible repeat (first | refine blk_drewN ?_ _ | refine blk_drew ?_ | refine blk_alloc ?_ _)); exact BK139.out⟩, ⟨by repeat (with_reducible first | exact HB.out | apply pw_below_drewN | apply below_drew1 | refine below_set ?_ (Aside0.out (by assumption)))⟩⟩
                            · rw [if_neg c55] at H
                              exact absurd H (by simp)
                          · rw [if_neg c53] at H
                            have c53b0 : decide (20 ≤ (t140.length : Int)) = false := decide_eq_false c53
                            have c53b1 : decide (20 ≤ t140.length) = false := decide_eq_false (by omega)
                            clear c53
                            by_cases c70 : (x140001_4.length : Int) ≥ 200
                            · rw [if_pos c70] at H
                              have c70b0 : decide (200 ≤ (x140001_4.length : Int)) = true := decide_eq_true c70
                              have c70b1 : decide (200 ≤ x140001_4.length) = true := decide_eq_true (by omega)
                              clear c70
                              have H' := Aside0.mk H
                              clear H
                              have hnb71 := NB139_132.out
                              have hnc71 := NB132_139.out
                              have hnb72 := NB139_133.out
                              have hnc72 := NB133_139.out
                              have hcz73_0 : wr.cell? ⟨gb139, 0, none⟩ = some (.int .i64 x140000_3) := (blk_cell BK139.out 0).trans rfl
                              have hcz73_1 : wr.cell? ⟨gb139, 1, none⟩ = some (u140001) := (blk_cell BK139.out 1).trans rfl
                              have hfz73_0 := blk_frozen BK139.out 0
                              have hfz73_1 := blk_frozen BK139.out 1
                              obtain ⟨Ao74, co74, eo74⟩ := Kd.R_slice HO_140001.out
                              subst eo74
                              go_wp2_with (first | ((with_reducible refine gate_callee (f := 22) rfl ?_); refine goesL_ (some 70) rfl rfl Try.func22 (by kernel_rfl) rfl #[.agg #[.int .i64 x140000_3, .slice Ao74 x140001_4.length co74], .int .i64 a2] rfl (by (try simp only [List.map_toArray, List.map_cons, List.map_nil]); first | done | rfl | (simp only [List.length_drop, List.length_take]; rfl)) ?_; (with_reducible refine (watchmanref21_To.calls k4 x140000_3 _ _ x140001_4 a2 t140 _ ?side1 ?side2 A52.out).mono ?_); (case side1 => repeat (first | exact (Kd.R_reads' HO_140001.out).2.2 | (with_reducible refine Kd.C_alloc ?_ _) | (with_reducible refine Kd.C_drewN ?_ _) | (with_reducible refine Kd.C_drew ?_))); (case side2 => exact (Kd.R_reads' HO_140001.out).2.1); rintro e w75 ⟨v141, rfl, ho0, hb⟩; refine ⟨_, rfl, ?_⟩; have HO142 := Aside0.mk (Kd.R_lower (Kd.R_new' ho0 (Kd.R_lt (HO_140001.out))) (below_size (by repeat (with_reducible first | exact HB.out | apply pw_below_drewN | apply below_drew1 | refine below_set ?_ (Aside0.out (by assumption)))))); replace HO_140001 := Aside0.mk (Kd.R_elder' (HO_140001.out) (Kd.R_base ho0) hb); replace BK132 := bl_ BK132 hb; replace BK133 := bl_ BK133 hb; replace BK139 := bl_ BK139 hb; replace HB := Aside0.mk (below_step (by repeat (with_reducible first | exact HB.out | apply pw_below_drewN | apply below_drew1 | refine below_set ?_ (Aside0.out (by assumption)))) hb); (try clear hb); (try clear hb2); (try clear hk); (try clear hi); (try clear ho0); obtain ⟨Ao76, co76, eo76⟩ := Kd.R_slice HO142.out; subst eo76; have hcz77_0 : w75.cell? ⟨gb139, 0, none⟩ = some (.int .i64 x140000_3) := (blk_cell BK139.out 0).trans rfl; have hcz77_1 : w75.cell? ⟨gb139, 1, none⟩ = some (.slice Ao74 x140001_4.length co74) := (blk_cell BK139.out 1).trans rfl; have hfz77_0 := blk_frozen BK139.out 0; have hfz77_1 := blk_frozen BK139.out 1))
                              go_roundg k4
                              case measure => have := HJ4.out; have := HK2.out; have := HK3.out; have := HK4.out; omega
                              case rel => exact ⟨(wrap64 (x13_4 + 1)), (wrap64 (x14_3 + 1)), (wrap64 (x140000_3 + 1)), (x140001_4), (.slice Ao74 x140001_4.length co74), (by first | rfl | (simp; done) | (simp [*]; done)), (by first | rfl | (simp; done) | (simp [*]; done)), H', ⟨by have := HJ4.out; have := HK2.out; have := HK3.out; have := HK4.out; omega⟩, ⟨by (with_reducible repeat (first | apply Kd.R_alloc | apply Kd.R_drewN | apply Kd.R_drew)); exact Kd.R_mono (Kd.R_far (p := ⟨gb139, 0, none⟩) (Kd.R_types HO_140001.out BK139.out (by decide)) (fun _ hk => hk.2) (.int .i64 (wrap64 (x140000_3 + 1)))) (fun _ hk => trivial)⟩, ⟨by (with_reducible repeat (first | refine blk_drewN ?_ _ | refine blk_drew ?_ | refine blk_alloc ?_ _)); refine blk_far ?_ NB132_139.out _; (with_reducible repeat (first | refine blk_drewN ?_ _ | refine blk_drew ?_ | refine blk_alloc ?_ _)); exact BK132.out⟩, ⟨by (with_reducible repeat (first | refine blk_drewN ?_ _ | refine blk_drew ?_ | refine blk_alloc ?_ _)); refine blk_far ?_ NB133_139.out _; (with_reducible repeat (first | refine blk_drewN ?_ _ | refine blk_drew ?_ | refine blk_alloc ?_ _)); exact BK133.out⟩, ⟨by (with_reducible repeat (first | refine blk_drewN ?_ _ | refine blk_drew ?_ | refine blk_alloc ?_ _)); refine blk_put (cs := #[.int .i64 x140000_3, .slice Ao74 x140001_4.length co74]) ?_ 0 _ rfl; (with_reducible repeat (first | refine blk_drewN ?_ _ | refine blk_drew ?_ | refine blk_alloc ?_ _)); exact BK139.out⟩, ⟨by repeat (with_reducible first | exact HB.out | apply pw_below_drewN | apply below_drew1 | refine below_set ?_ (Aside0.out (by assumption)))⟩⟩
                            · rw [if_neg c70] at H
                              have c70b0 : decide (200 ≤ (x140001_4.length : Int)) = false := decide_eq_false c70
                              have c70b1 : decide (200 ≤ x140001_4.length) = false := decide_eq_false (by omega)
                              clear c70
                              by_cases c78 : 0 ≤ x14_3
                              · rw [if_pos c78] at H
                                have c78b0 : decide (0 ≤ x14_3) = true := decide_eq_true c78
                                clear c78
                                by_cases c79 : x14_3 < (l3.length : Int)
                                · rw [if_pos c79] at H
                                  have c79b0 : decide (x14_3 < (l3.length : Int)) = true := decide_eq_true c79
                                  clear c79
                                  by_cases c80 : x140001_4.length < 3518437208883
                                  · rw [if_pos c80] at H
                                    have LMc80 := Aside0.mk c80
                                    clear c80
                                    obtain ⟨y151, hy151⟩ : ∃ y_ : List (S35), y_ = (x140001_4 ++ [(⟨x140000_3, a1, a2, rdOf ByteArray.empty l3 x14_3⟩ : S35)]) := ⟨_, rfl⟩
                                    replace H : (watchmanref21_Send.l1 k4 a1 a2 l3 x13_4 (wrap64 (x14_3 + 1)) (wrap64 (x140000_3 + 1)) y151) = some (r1, r2, r3, r4) := by first | (rw [hy151]; with_reducible exact H) | (have H2_ := (Option.bind_some _ _).symm.trans H; rw [hy151]; with_reducible exact H2_) | (have H2_ := (Option.bind_some _ _).symm.trans H; with_reducible exact H2_) | with_reducible exact H | (rw [hy151]; exact H) | exact H
                                    have Ny151 := Aside0.mk hy151
                                    clear hy151
                                    have H' := Aside0.mk H
                                    clear H
                                    have hnb81 := NB139_132.out
                                    have hnc81 := NB132_139.out
                                    have hnb82 := NB139_133.out
                                    have hnc82 := NB133_139.out
                                    have hcz83_0 : wr.cell? ⟨gb139, 0, none⟩ = some (.int .i64 x140000_3) := (blk_cell BK139.out 0).trans rfl
                                    have hcz83_1 : wr.cell? ⟨gb139, 1, none⟩ = some (u140001) := (blk_cell BK139.out 1).trans rfl
                                    have hfz83_0 := blk_frozen BK139.out 0
                                    have hfz83_1 := blk_frozen BK139.out 1
                                    obtain ⟨Ao84, co84, eo84⟩ := Kd.R_slice HO_140001.out
                                    subst eo84
                                    try go_wp2_with (first | ((with_reducible refine gate_callee (f := 22) rfl ?_); refine goesL_ (some 70) rfl rfl Try.func22 (by kernel_rfl) rfl #[.agg #[.int .i64 x140000_3, .slice Ao84 x140001_4.length co84], .int .i64 a2] rfl (by (try simp only [List.map_toArray, List.map_cons, List.map_nil]); first | done | rfl | (simp only [List.length_drop, List.length_take]; rfl)) ?_; (with_reducible refine (watchmanref21_To.calls k4 x140000_3 _ _ x140001_4 a2 t140 _ ?side1 ?side2 A52.out).mono ?_); (case side1 => repeat (first | exact (Kd.R_reads' HO_140001.out).2.2 | (with_reducible refine Kd.C_alloc ?_ _) | (with_reducible refine Kd.C_drewN ?_ _) | (with_reducible refine Kd.C_drew ?_))); (case side2 => exact (Kd.R_reads' HO_140001.out).2.1); rintro e w85 ⟨v141, rfl, ho0, hb⟩; refine ⟨_, rfl, ?_⟩; have HO142 := Aside0.mk (Kd.R_lower (Kd.R_new' ho0 (Kd.R_lt (HO_140001.out))) (below_size (by repeat (with_reducible first | exact HB.out | apply pw_below_drewN | apply below_drew1 | refine below_set ?_ (Aside0.out (by assumption)))))); replace HO_140001 := Aside0.mk (Kd.R_elder' (HO_140001.out) (Kd.R_base ho0) hb); replace BK132 := bl_ BK132 hb; replace BK133 := bl_ BK133 hb; replace BK139 := bl_ BK139 hb; replace HB := Aside0.mk (below_step (by repeat (with_reducible first | exact HB.out | apply pw_below_drewN | apply below_drew1 | refine below_set ?_ (Aside0.out (by assumption)))) hb); (try clear hb); (try clear hb2); (try clear hk); (try clear hi); (try clear ho0); obtain ⟨Ao86, co86, eo86⟩ := Kd.R_slice HO142.out; subst eo86; have hcz87_0 : w85.cell? ⟨gb139, 0, none⟩ = some (.int .i64 x140000_3) := (blk_cell BK139.out 0).trans rfl; have hcz87_1 : w85.cell? ⟨gb139, 1, none⟩ = some (.slice Ao84 x140001_4.length co84) := (blk_cell BK139.out 1).trans rfl; have hfz87_0 := blk_frozen BK139.out 0; have hfz87_1 := blk_frozen BK139.out 1))
                                    replace HO_140001 := Aside0.mk (Kd.R_drew HO_140001.out)
                                    replace HO142 := Aside0.mk (Kd.R_drew HO142.out)
                                    replace BK132 := Aside0.mk (blk_drew BK132.out)
                                    replace BK133 := Aside0.mk (blk_drew BK133.out)
                                    replace BK139 := Aside0.mk (blk_drew BK139.out)
                                    replace HB := Aside0.mk (below_drew1 HB.out)
                                    have p150 : 0 ≤ (x14_3 : Int) := of_decide_eq_true (by first | (with_reducible assumption) | assumption)
                                    have q150 : x14_3 < (l3.length : Int) := of_decide_eq_true (by first | (with_reducible assumption) | assumption)
                                    obtain ⟨ad150, e150, hx150_0⟩ := Kd.at_string HR3.out x14_3 p150 q150
                                    have hw150_0 := hx150_0
                                    cases e150
                                    replace hx150_0 := (HB.out.cell (World.block_lt_of_cell? w _ hx150_0)).trans hx150_0
                                    replace p150 := eq_true p150
                                    replace q150 := eq_true q150
                                    refine start_ (n := 15) (S := fun w' => w'.cell? ⟨gb139, 0, none⟩ = some (.int .i64 x140000_3) ∧ w'.cell? ⟨gb139, 1, none⟩ = some (.slice Ao84 x140001_4.length co84) ∧ w'.cell? (ad150.add (x14_3).toNat) = some (.string (rdOf ByteArray.empty l3 x14_3))) (ds := [14]) #[false, false, false, false, false, false, false, false, false, false, false, false, false, false, false] (by kernel_rfl) rfl rfl ⟨(blk_cell BK139.out 0).trans rfl, (blk_cell BK139.out 1).trans rfl, ((HB.out.cell (World.block_lt_of_cell? w _ hw150_0)).trans hw150_0)⟩ (fun hHeld => ?_); refine with_tabW watchmanref21_Send.tab21 watchmanref21_Send.bits21 (fun HT_ HW_ => ?_)
                                    generalize w85.drew = w88 at HO_140001 HO142 BK132 BK133 BK139 HB hx150_0 hHeld ⊢
                                    refine pure_ (i := 0) (N := some 92) (v := ?_) (a' := ?_) (dn_ 1 15) rfl rfl (any_of HT_.out (by kernel_rfl)) (fun _ _ _ h => h) (Or.inl ⟨by rfl, ?_⟩) ?_ ?_
                                    rotate_left
                                    · intro w'
                                      go_simp
                                      with_reducible rfl
                                    rotate_left; (simp only [Act.put, List.setIfInBounds_toArray, List.set_cons_zero, List.set_cons_succ, i64_w, i32_w]; rfl)
                                    refine pure_ (i := 2) (N := some 94) (v := ?_) (a' := ?_) #[true, false, true, false, false, false, false, false, false, false, false, false, false, false, false] rfl rfl (any_of HT_.out (by kernel_rfl)) (fun _ _ _ h => h) (Or.inl ⟨by rfl, ?_⟩) ?_ ?_
                                    rotate_left
                                    · intro w'
                                      go_simp
                                      with_reducible rfl
                                    rotate_left; (simp only [Act.put, List.setIfInBounds_toArray, List.set_cons_zero, List.set_cons_succ, i64_w, i32_w]; rfl)
                                    refine pure_ (i := 4) (N := some 96) (v := ?_) (a' := ?_) #[true, false, true, false, true, false, false, false, false, false, false, false, false, false, false] rfl rfl (any_of HT_.out (by kernel_rfl)) (fun _ _ _ h => h) (Or.inl ⟨by rfl, ?_⟩) ?_ ?_
                                    rotate_left
                                    · intro w'
                                      go_simp
                                      with_reducible rfl
                                    rotate_left; (simp only [Act.put, List.setIfInBounds_toArray, List.set_cons_zero, List.set_cons_succ, i64_w, i32_w]; rfl)
                                    refine pure_ (i := 5) (N := some 97) (v := ?_) (a' := ?_) #[true, false, true, false, true, true, false, false, false, false, false, false, false, false, false] rfl rfl (any_of HT_.out (by kernel_rfl)) (fun _ _ _ h => h) (Or.inl ⟨by rfl, ?_⟩) ?_ ?_
                                    rotate_left
                                    · intro w'
                                      go_simp
                                      with_reducible rfl
                                    rotate_left; (simp only [Act.put, List.setIfInBounds_toArray, List.set_cons_zero, List.set_cons_succ, i64_w, i32_w]; rfl)
                                    refine pure_ (i := 6) (N := some 98) (v := ?_) (a' := ?_) #[true, false, true, false, true, true, true, false, false, false, false, false, false, false, false] rfl rfl (any_of HT_.out (by kernel_rfl)) (fun _ _ _ h => h) (Or.inl ⟨by rfl, ?_⟩) ?_ ?_
                                    rotate_left
                                    · intro w'
                                      go_simp
                                      with_reducible rfl
                                    rotate_left; (simp only [Act.put, List.setIfInBounds_toArray, List.set_cons_zero, List.set_cons_succ, i64_w, i32_w]; rfl)
                                    refine pure_ (i := 7) (N := some 99) (v := ?_) (a' := ?_) #[true, false, true, false, true, true, true, true, false, false, false, false, false, false, false] rfl rfl (any_of HT_.out (by kernel_rfl)) (fun _ _ _ h => h) (Or.inl ⟨by rfl, ?_⟩) ?_ ?_
                                    rotate_left
                                    · intro w'
                                      go_simp
                                      with_reducible rfl
                                    rotate_left; (simp only [Act.put, List.setIfInBounds_toArray, List.set_cons_zero, List.set_cons_succ, i64_w, i32_w]; rfl)
                                    refine pure_ (i := 8) (N := some 100) (v := ?_) (a' := ?_) #[true, false, true, false, true, true, true, true, true, false, false, false, false, false, false] rfl rfl (any_of HT_.out (by kernel_rfl)) (fun _ _ _ h => h) (Or.inl ⟨by rfl, ?_⟩) ?_ ?_
                                    rotate_left
                                    · intro w'
                                      go_simp
                                      with_reducible rfl
                                    rotate_left; (simp only [Act.put, List.setIfInBounds_toArray, List.set_cons_zero, List.set_cons_succ, i64_w, i32_w]; rfl)
                                    refine take_ (i := 1) (N := some 93) (v := ?_) (a' := ?_) #[true, true, true, false, true, true, true, true, true, false, false, false, false, false, false] rfl rfl (take_ofW HT_.out HW_.out (by kernel_rfl)) (fun _ _ _ h => h) (Or.inl ⟨by rfl, ?_⟩) hHeld ?_ ?_
                                    rotate_left
                                    · rintro w' ⟨s0, s1, s2⟩
                                      go_simp
                                      with_reducible rfl
                                    rotate_left; (simp only [Act.put, List.setIfInBounds_toArray, List.set_cons_zero, List.set_cons_succ, i64_w, i32_w]; rfl)
                                    refine take_ (i := 3) (N := some 95) (v := ?_) (a' := ?_) (dn_ 9 15) rfl rfl (take_ofW HT_.out HW_.out (by kernel_rfl)) (fun _ _ _ h => h) (Or.inl ⟨by rfl, ?_⟩) hHeld ?_ ?_
                                    rotate_left
                                    · rintro w' ⟨s0, s1, s2⟩
                                      go_simp
                                      with_reducible rfl
                                    rotate_left; (simp only [Act.put, List.setIfInBounds_toArray, List.set_cons_zero, List.set_cons_succ, i64_w, i32_w]; rfl)
                                    refine take_ (i := 9) (N := some 101) (v := ?_) (a' := ?_) (dn_ 10 15) rfl rfl (take_ofW HT_.out HW_.out (by kernel_rfl)) (fun _ _ _ h => h) (Or.inl ⟨by rfl, ?_⟩) hHeld ?_ ?_
                                    rotate_left
                                    · rintro w' ⟨s0, s1, s2⟩
                                      go_simp
                                      with_reducible rfl
                                    rotate_left; (simp only [Act.put, List.setIfInBounds_toArray, List.set_cons_zero, List.set_cons_succ, i64_w, i32_w]; rfl)
                                    refine pure_ (i := 10) (N := some 102) (v := ?_) (a' := ?_) (dn_ 11 15) rfl rfl (any_of HT_.out (by kernel_rfl)) (fun _ _ _ h => h) (Or.inl ⟨by rfl, ?_⟩) ?_ ?_
                                    rotate_left
                                    · intro w'
                                      go_simp
                                      with_reducible rfl
                                    rotate_left; (simp only [Act.put, List.setIfInBounds_toArray, List.set_cons_zero, List.set_cons_succ, i64_w, i32_w]; rfl)
                                    refine one_ (i := 11) (N := some 103) (dn_ 12 15) rfl rfl (one_of HT_.out (by kernel_rfl)) (by decide) (fun K hK => ?_)
                                    refine value_ (w1 := ?_) (v := ?_) (by rfl) rfl ?_ ?_
                                    rotate_left 2
                                    · go_simp
                                      constructor
                                      · rfl
                                      · rfl
                                    refine hK.out _ _ ⟨(blk_cell (blk_alloc BK139.out _) 0).trans rfl, (blk_cell (blk_alloc BK139.out _) 1).trans rfl, (World.cell?_alloc_lt _ _ _ (World.block_lt_of_cell? _ _ (((HB.out.cell (World.block_lt_of_cell? w _ hw150_0)).trans hw150_0)))).trans (((HB.out.cell (World.block_lt_of_cell? w _ hw150_0)).trans hw150_0))⟩ (fun hHeld => ?_)
                                    clear hK K
                                    refine norm_ (a' := ?_) ?_ ?_
                                    rotate_left
                                    · show Act.put _ (some 103) _ = _
                                      simp only [Act.put, List.setIfInBounds_toArray, List.set_cons_zero, List.set_cons_succ, i64_w, i32_w]
                                      rfl
                                    refine one_ (i := 12) (N := some 104) (dn_ 13 15) rfl rfl (one_of HT_.out (by kernel_rfl)) (by decide) (fun K hK => ?_)
                                    refine Kd.R_append_step k35 (w0 := w) w.heap.size (by rfl) (.tmp 93) (.tmp 103) 22 35 (.agg #[(.int .i64 0), (.int .i64 0), (.int .i64 0), (.string ⟨#[]⟩)]) 40 rfl Try.underlying22 info35 rfl (by decide) (by omega) (.slice Ao84 x140001_4.length co84) x140001_4 (⟨x140000_3, a1, a2, rdOf ByteArray.empty l3 x14_3⟩ : S35) [.int .i64 x140000_3, .int .i64 a1, .int .i64 a2, .string (rdOf ByteArray.empty l3 x14_3)] (fun k_ => some k_ ≠ (.slice Ao86 t140.length co86 : Value).ownBlock) (fun _ => False) rfl rfl ?aP (fun _ hk => hk.elim) ?aF ?aO ?aB ?aS ?aL ?_
                                    (case aP => exact k35_mkM _ _ _ (⟨x140000_3, a1, a2, rdOf ByteArray.empty l3 x14_3⟩ : S35))
                                    (case aB => exact (by repeat (with_reducible first | exact HB.out | apply pw_below_drewN | apply below_drew1 | refine below_set ?_ (Aside0.out (by assumption)))))
                                    (case aF => exact (fun k_ hk => Kd.fresh' (Kd.R_lt (HO142.out)) k_ hk))
                                    (case aO => exact (by (with_reducible repeat (first | apply Kd.R_alloc | apply Kd.R_drewN | apply Kd.R_drew)); exact Kd.R_mono HO_140001.out (fun _ hk => hk.2)))
                                    (case aS => exact (below_size (by repeat (with_reducible first | exact HB.out | apply pw_below_drewN | apply below_drew1 | refine below_set ?_ (Aside0.out (by assumption))))))
                                    (case aL => have := LMc80.out; omega)
                                    intro v152 w89 ho hb hg hat
                                    rw [← Ny151.out] at ho
                                    replace BK132 := Aside0.mk (blk_grown (g := gb132) (o := .cells #[.int .i64 a0_0, .slice A0_1 l0_1.length c0_1] 24 (0, 0)) BK132.out hg (Kd.R_ne HO_140001.out BK132.out (by decide)))
                                    replace BK133 := Aside0.mk (blk_grown (g := gb133) (o := .cells #[.int .i64 x134000_2, .slice none 0 0] 24 (0, 0)) BK133.out hg (Kd.R_ne HO_140001.out BK133.out (by decide)))
                                    replace BK139 := Aside0.mk (blk_grown (g := gb139) (o := .cells #[.int .i64 x140000_3, .slice Ao84 x140001_4.length co84] 24 (0, 0)) BK139.out hg (Kd.R_ne HO_140001.out BK139.out (by decide)))
                                    replace HO142 := Aside0.mk (Kd.R_after (ok := (fun _ => True)) (HO142.out) hg hat)
                                    replace HB := Aside0.mk (hb)
                                    have HO153 := Aside0.mk (ho)
                                    clear HO_140001
                                    clear ho hb hg hat
                                    obtain ⟨Ao90, co90, eo90⟩ := Kd.R_slice HO153.out
                                    (first | subst eo90 | (injection eo90 with f1_ f2_ f3_; have f4_ := f1_.symm; have f5_ := f3_.symm; clear f1_ f2_ f3_; subst f4_; subst f5_))
                                    refine hK.out _ _ ⟨(blk_cell BK139.out 0).trans rfl, (blk_cell BK139.out 1).trans rfl, ((HB.out.cell (World.block_lt_of_cell? w _ hw150_0)).trans hw150_0)⟩ (fun hHeld => ?_)
                                    clear hK K
                                    refine norm_ (a' := ?_) ?_ ?_
                                    rotate_left
                                    · show Act.put _ (some 104) _ = _
                                      simp only [Act.put, List.setIfInBounds_toArray, List.set_cons_zero, List.set_cons_succ, i64_w, i32_w]
                                      rfl
                                    refine pure_ (i := 13) (N := some 105) (v := ?_) (a' := ?_) (dn_ 14 15) rfl rfl (any_of HT_.out (by kernel_rfl)) (fun _ _ _ h => h) (Or.inl ⟨by rfl, ?_⟩) ?_ ?_
                                    rotate_left
                                    · intro w'
                                      go_simp
                                      with_reducible rfl
                                    rotate_left; (simp only [Act.put, List.setIfInBounds_toArray, List.set_cons_zero, List.set_cons_succ, i64_w, i32_w]; rfl)
                                    refine last_ (i := 14) (N := none) #[true, true, true, true, true, true, true, true, true, true, true, true, true, true, true] rfl rfl (one_of HT_.out (by kernel_rfl)) (by decide) (fun K hK => ?_)
                                    have hs91 : w89.cell? ⟨gb139, 1, none⟩ = some (.slice Ao84 x140001_4.length co84) := (blk_cell BK139.out 1).trans rfl
                                    have hfs91 := blk_frozen BK139.out 1
                                    have hns91_0 := NB132_139.out
                                    have hns91_1 := NB133_139.out
                                    have hms91_0 := NB139_132.out
                                    have hms91_1 := NB139_133.out
                                    refine skip_ (w1 := ?_) (by rfl) rfl ?_ ?_
                                    rotate_left
                                    · go_simp
                                      rfl
                                    refine hK.out _ _ ?_
                                    clear hK K
                                    refine done_ (done_of HT_.out (by kernel_rfl)) ?_
                                    have hcz92_0 : w89.cell? ⟨gb139, 0, none⟩ = some (.int .i64 x140000_3) := (blk_cell BK139.out 0).trans rfl
                                    have hcz92_1 : w89.cell? ⟨gb139, 1, none⟩ = some (.slice Ao84 x140001_4.length co84) := (blk_cell BK139.out 1).trans rfl
                                    have hfz92_0 := blk_frozen BK139.out 0
                                    have hfz92_1 := blk_frozen BK139.out 1
                                    try go_wp2
                                    go_roundg k4
                                    case measure => have := HJ4.out; have := HK2.out; have := HK3.out; have := HK4.out; omega
                                    case rel => exact ⟨(x13_4), (wrap64 (x14_3 + 1)), (wrap64 (x140000_3 + 1)), (y151), (.slice Ao90 y151.length co90), (by first | rfl | (simp; done) | (simp [*]; done)), (by first | rfl | (simp; done) | (simp [*]; done)), H', ⟨by have := HJ4.out; have := HK2.out; have := HK3.out; have := HK4.out; omega⟩, ⟨by (with_reducible repeat (first | apply Kd.R_alloc | apply Kd.R_drewN | apply Kd.R_drew)); exact Kd.R_mono (Kd.R_far (p := ⟨gb139, 0, none⟩) (Kd.R_far (p := ⟨gb139, 1, none⟩) (Kd.R_types HO153.out BK139.out (by decide)) (fun _ hk => hk.2) (.slice Ao90 y151.length co90)) (fun _ hk => hk.2) (.int .i64 (wrap64 (x140000_3 + 1)))) (fun _ hk => trivial)⟩, ⟨by (with_reducible repeat (first | refine blk_drewN ?_ _ | refine blk_drew ?_ | refine blk_alloc ?_ _)); refine blk_far ?_ NB132_139.out _; (with_reducible repeat (first | refine blk_drewN ?_ _ | refine blk_drew ?_ | refine blk_alloc ?_ _)); refine blk_far ?_ NB132_139.out _; (with_reducible repeat (first | refine blk_drewN ?_ _ | refine blk_drew ?_ | refine blk_alloc ?_ _)); exact BK132.out⟩, ⟨by (with_reducible repeat (first | refine blk_drewN ?_ _ | refine blk_drew ?_ | refine blk_alloc ?_ _)); refine blk_far ?_ NB133_139.out _; (with_reducible repeat (first | refine blk_drewN ?_ _ | refine blk_drew ?_ | refine blk_alloc ?_ _)); refine blk_far ?_ NB133_139.out _; (with_reducible repeat (first | refine blk_drewN ?_ _ | refine blk_drew ?_ | refine blk_alloc ?_ _)); exact BK133.out⟩, ⟨by (with_reducible repeat (first | refine blk_drewN ?_ _ | refine blk_drew ?_ | refine blk_alloc ?_ _)); refine blk_put (cs := #[.int .i64 x140000_3, .slice Ao90 y151.length co90]) ?_ 0 _ rfl; (with_reducible repeat (first | refine blk_drewN ?_ _ | refine blk_drew ?_ | refine blk_alloc ?_ _)); refine blk_put (cs := #[.int .i64 x140000_3, .slice Ao84 x140001_4.length co84]) ?_ 1 _ rfl; (with_reducible repeat (first | refine blk_drewN ?_ _ | refine blk_drew ?_ | refine blk_alloc ?_ _)); exact BK139.out⟩, ⟨by repeat (with_reducible first | exact HB.out | apply pw_below_drewN | apply below_drew1 | refine below_set ?_ (Aside0.out (by assumption)))⟩⟩
                                  · rw [if_neg c80] at H
                                    exact absurd H (by simp)
                                · rw [if_neg c79] at H
                                  exact absurd H (by simp)
                              · rw [if_neg c78] at H
                                exact absurd H (by simp)
                    · rw [if_neg c51] at H
                      have c51b0 : decide (x14_3 < (l3.length : Int)) = false := decide_eq_false c51
                      clear c51
                      simp only [Option.some.injEq, Prod.mk.injEq] at H
                      obtain ⟨rfl, rfl, rfl, rfl⟩ := H
                      have hnb93 := NB139_132.out
                      have hnc93 := NB132_139.out
                      have hnb94 := NB139_133.out
                      have hnc94 := NB133_139.out
                      have hcz95_0 : wr.cell? ⟨gb139, 0, none⟩ = some (.int .i64 x140000_3) := (blk_cell BK139.out 0).trans rfl
                      have hcz95_1 : wr.cell? ⟨gb139, 1, none⟩ = some (u140001) := (blk_cell BK139.out 1).trans rfl
                      have hfz95_0 := blk_frozen BK139.out 0
                      have hfz95_1 := blk_frozen BK139.out 1
                      have hnb96 := NB133_132.out
                      have hnc96 := NB132_133.out
                      have hcz97_0 : wr.cell? ⟨gb133, 0, none⟩ = some (.int .i64 x134000_2) := (blk_cell BK133.out 0).trans rfl
                      have hcz97_1 : wr.cell? ⟨gb133, 1, none⟩ = some (.slice none 0 0) := (blk_cell BK133.out 1).trans rfl
                      have hfz97_0 := blk_frozen BK133.out 0
                      have hfz97_1 := blk_frozen BK133.out 1
                      obtain ⟨Ao98, co98, eo98⟩ := Kd.R_slice HO_140001.out
                      subst eo98
                      go_wp2
                      refine bodyPost_ret (results_ctt rfl _ _ gb133 24 #[.int .i64 x140000_3, .slice Ao98 x140001_3.length co98] (0, 0) _ rfl (by refine blk_put (cs := #[.int .i64 x140000_3, .slice none 0 0]) ?_ 1 _ rfl; refine blk_put (cs := #[.int .i64 x134000_2, .slice none 0 0]) ?_ 0 _ rfl; exact BK133.out) Try.underlying24 rfl (by kernel_rfl)) rfl ?_
                      exact ⟨_, by first | rfl | (simp [errW_none, errW_some] <;> rfl) | (simp [*, errW_none, errW_some] <;> rfl), by (with_reducible repeat (first | apply Kd.R_alloc | apply Kd.R_drewN | apply Kd.R_drew)); exact Kd.R_mono (rf2 (Kd.R_types HO_140001.out BK133.out (by decide)) (fun _ hk => hk.2) (.int .i64 x140000_3) (.slice Ao98 x140001_3.length co98)) (fun _ hk => trivial), by repeat (with_reducible first | exact HB.out | apply pw_below_drewN | apply below_drew1 | refine below_set ?_ (Aside0.out (by assumption)))⟩

end Go.Proofs.Ytofbkpdpgmjllaa.F
