-- Written by a program of this session (xprint.py), out of the translation and of contracts proved by hand.
import Derived.Test.YtkhdpmbjjcmooaaF0
import Derived.Test.YtkhdpmbjjcmooaaF1
import Derived.Test.YtkhdpmbjjcmooaaF2
import Derived.Test.YtkhdpmbjjcmooaaF10
import Derived.Test.YtkhdpmbjjcmooaaF11
import Derived.Test.YtkhdpmbjjcmooaaF14
namespace Go.Proofs.Ytkhdpmbjjcmooaa.F
open Go.RowKit Go.Proofs.YtkhdpmbjjcmooaaV.PrintWords Go.Proofs.YtkhdpmbjjcmooaaV.PrintLast Go.Proofs.YtkhdpmbjjcmooaaV.PrintMore
attribute [local go_sem] max2_int min2_int max_two min_two max_three min_three max_four min_four   -- for this text's walks alone
set_option linter.unusedVariables false
set_option linter.unusedSimpArgs false

/-! ### watchmanref18_Put: function 21 -/
mutual
def watchmanref18_Put.j0 : Nat → List (S39) → Int → Int → Int → Bool → Int → Int → List ByteArray → Option ((List (S39)) × Int)
  | 0, _, _, _, _, _, _, _, _ => none
  | k + 1, x0, x1, x2, x3, x35, x293000, x293001, x293002 => if x35 = true then (some (([] : List (S39)), 1)) else ((watchmanref18_Check.f k x0 x1 x2).bind fun bt295 => (if bt295.2.2.2 = 3 then (some (([] : List (S39)), 181)) else (if bt295.2.2.2 = 0 then ((watchmanref18_Own.f k x0).bind fun t302 => (watchmanref18_Put.l0 k x1 x2 x3 t302 0 x293000 x293001 x293002)) else (some (([] : List (S39)), 180)))))
def watchmanref18_Put.l0 : Nat → Int → Int → Int → List (S39) → Int → Int → Int → List ByteArray → Option ((List (S39)) × Int)
  | 0, _, _, _, _, _, _, _, _ => none
  | k + 1, x1, x2, x3, x14, x15, x293000, x293001, x293002 => if x15 < (x14.length : Int) then (if 0 ≤ x15 then (if ((rd_T39 x14 x15).f0) = x1 then ((watchmanref18_OwnAnswer.f x293000 x293001 x293002).bind fun bt306 => (watchmanref18_Put.l0 k x1 x2 x3 (x14.set (x15 : Int).toNat (⟨x1, x2, x3, (⟨bt306.1, bt306.2.1, bt306.2.2⟩ : S26)⟩ : S39)) (wrap64 (x15 + 1)) x293000 x293001 x293002)) else (watchmanref18_Put.l0 k x1 x2 x3 x14 (wrap64 (x15 + 1)) x293000 x293001 x293002)) else (none)) else (some (x14, 0))
end
def watchmanref18_Put.f (k : Nat) (l0 : List (S39)) (a1 : Int) (a2 : Int) (a3 : Int) (a4_0 : Int) (a4_1 : Int) (l4_2 : List ByteArray) : Option ((List (S39)) × Int) := (watchmanref18_Is.f k l0).bind fun t293 => (if t293 = true then (if a3 < 0 then (watchmanref18_Put.j0 k l0 a1 a2 a3 true a4_0 a4_1 l4_2) else (if a3 > 1000000000 then (watchmanref18_Put.j0 k l0 a1 a2 a3 true a4_0 a4_1 l4_2) else (if a2 > 1000000000 then (watchmanref18_Put.j0 k l0 a1 a2 a3 true a4_0 a4_1 l4_2) else ((watchmanref18_Answer.f k a4_0 a4_1 l4_2).bind fun t294 => (watchmanref18_Put.j0 k l0 a1 a2 a3 (!t294) a4_0 a4_1 l4_2))))) else (watchmanref18_Put.j0 k l0 a1 a2 a3 true a4_0 a4_1 l4_2))
theorem watchmanref18_Put.mono_l : ∀ k, (∀ y0 y1 y2 y3 y4 y5 y6 y7, LeO (watchmanref18_Put.j0 k y0 y1 y2 y3 y4 y5 y6 y7) (watchmanref18_Put.j0 (k + 1) y0 y1 y2 y3 y4 y5 y6 y7)) ∧ (∀ y0 y1 y2 y3 y4 y5 y6 y7, LeO (watchmanref18_Put.l0 k y0 y1 y2 y3 y4 y5 y6 y7) (watchmanref18_Put.l0 (k + 1) y0 y1 y2 y3 y4 y5 y6 y7))
  | 0 => ⟨fun _ _ _ _ _ _ _ _ r h => by simp [watchmanref18_Put.j0] at h, fun _ _ _ _ _ _ _ _ r h => by simp [watchmanref18_Put.l0] at h⟩
  | k + 1 => by
    obtain ⟨ih0, ih1⟩ := watchmanref18_Put.mono_l k
    refine ⟨?_, ?_⟩
    · intro y0 y1 y2 y3 y4 y5 y6 y7
      unfold watchmanref18_Put.j0
      repeat' first
      | (with_reducible exact ih0 _ _ _ _ _ _ _ _)
      | (with_reducible exact ih1 _ _ _ _ _ _ _ _)
      | (with_reducible exact watchmanref18_Answer.mono _ _ _ _)
      | (with_reducible exact watchmanref18_Check.mono _ _ _ _)
      | (with_reducible exact watchmanref18_Is.mono _ _)
      | (with_reducible exact watchmanref18_Own.mono _ _)
      | (with_reducible exact LeO.refl _)
      | (with_reducible exact LeO.none _)
      | (with_reducible refine LeO.ite ?_ ?_)
      | (with_reducible refine LeO.bind ?_ (fun _ => ?_))
      | exact ih0 _ _ _ _ _ _ _ _
      | exact ih1 _ _ _ _ _ _ _ _
      | exact watchmanref18_Answer.mono _ _ _ _
      | exact watchmanref18_Check.mono _ _ _ _
      | exact watchmanref18_Is.mono _ _
      | exact watchmanref18_Own.mono _ _
      | exact LeO.none _
      | refine LeO.ite ?_ ?_
      | refine LeO.bind ?_ (fun _ => ?_)
    · intro y0 y1 y2 y3 y4 y5 y6 y7
      unfold watchmanref18_Put.l0
      repeat' first
      | (with_reducible exact ih0 _ _ _ _ _ _ _ _)
      | (with_reducible exact ih1 _ _ _ _ _ _ _ _)
      | (with_reducible exact watchmanref18_Answer.mono _ _ _ _)
      | (with_reducible exact watchmanref18_Check.mono _ _ _ _)
      | (with_reducible exact watchmanref18_Is.mono _ _)
      | (with_reducible exact watchmanref18_Own.mono _ _)
      | (with_reducible exact LeO.refl _)
      | (with_reducible exact LeO.none _)
      | (with_reducible refine LeO.ite ?_ ?_)
      | (with_reducible refine LeO.bind ?_ (fun _ => ?_))
      | exact ih0 _ _ _ _ _ _ _ _
      | exact ih1 _ _ _ _ _ _ _ _
      | exact watchmanref18_Answer.mono _ _ _ _
      | exact watchmanref18_Check.mono _ _ _ _
      | exact watchmanref18_Is.mono _ _
      | exact watchmanref18_Own.mono _ _
      | exact LeO.none _
      | refine LeO.ite ?_ ?_
      | refine LeO.bind ?_ (fun _ => ?_)
theorem watchmanref18_Put.mono : ∀ a0 a1 a2 a3 a4 a5 a6 k, LeO (watchmanref18_Put.f k a0 a1 a2 a3 a4 a5 a6) (watchmanref18_Put.f (k + 1) a0 a1 a2 a3 a4 a5 a6) := by
  intro a0 a1 a2 a3 a4 a5 a6 k
  obtain ⟨ih0, ih1⟩ := watchmanref18_Put.mono_l k
  unfold watchmanref18_Put.f
  repeat' first
      | (with_reducible exact ih0 _ _ _ _ _ _ _ _)
      | (with_reducible exact ih1 _ _ _ _ _ _ _ _)
      | (with_reducible exact watchmanref18_Answer.mono _ _ _ _)
      | (with_reducible exact watchmanref18_Check.mono _ _ _ _)
      | (with_reducible exact watchmanref18_Is.mono _ _)
      | (with_reducible exact watchmanref18_Own.mono _ _)
      | (with_reducible exact LeO.refl _)
      | (with_reducible exact LeO.none _)
      | (with_reducible refine LeO.ite ?_ ?_)
      | (with_reducible refine LeO.bind ?_ (fun _ => ?_))
      | exact ih0 _ _ _ _ _ _ _ _
      | exact ih1 _ _ _ _ _ _ _ _
      | exact watchmanref18_Answer.mono _ _ _ _
      | exact watchmanref18_Check.mono _ _ _ _
      | exact watchmanref18_Is.mono _ _
      | exact watchmanref18_Own.mono _ _
      | exact LeO.none _
      | refine LeO.ite ?_ ?_
      | refine LeO.bind ?_ (fun _ => ?_)
set_option maxHeartbeats 8000000 in
set_option maxRecDepth 100000 in
theorem watchmanref18_Put.calls (k : Nat) (A0 : Option Addr) (c0 : Nat) (l0 : List (S39)) (a1 : Int) (a2 : Int) (a3 : Int) (a4_0 : Int) (a4_1 : Int) (A4_2 : Option Addr) (c4_2 : Nat) (l4_2 : List ByteArray) (r1 : List (S39)) (r2 : Int) (w : World) (hr0 : Kd.C k39 w A0 l0.length l0) (hc0 : l0.length ≤ c0) (hr4_2 : Kd.C Kd.string w A4_2 l4_2.length l4_2) (hc4_2 : l4_2.length ≤ c4_2) (h : watchmanref18_Put.f k l0 a1 a2 a3 a4_0 a4_1 l4_2 = some (r1, r2)) :
    Calls Try.prog 21 #[.slice A0 l0.length c0, .int .i64 a1, .int .i64 a2, .int .i64 a3, .agg #[.int .i64 a4_0, .int .i64 a4_1, .slice A4_2 l4_2.length c4_2]] w fun e w' => ∃ v0_ : Value, e = .returned (.tuple #[v0_, .int .i64 r2]) ∧ Kd.S k39 39 w' w.heap.size (fun _ => True) v0_ r1 ∧ Below w.heap.size w w' := by
  have hu26 := Try.underlying26
  have hu39 := Try.underlying39
  have HR0 := Aside0.mk hr0
  have HC0 := Aside0.mk hc0
  clear hr0 hc0
  have HR4_2 := Aside0.mk hr4_2
  have HC4_2 := Aside0.mk hc4_2
  clear hr4_2 hc4_2
  have HB := Aside0.mk (Below.refl w.heap.size w)
  have H : ((watchmanref18_Is.f k l0).bind fun t293 => (if t293 = true then (if a3 < 0 then (watchmanref18_Put.j0 k l0 a1 a2 a3 true a4_0 a4_1 l4_2) else (if a3 > 1000000000 then (watchmanref18_Put.j0 k l0 a1 a2 a3 true a4_0 a4_1 l4_2) else (if a2 > 1000000000 then (watchmanref18_Put.j0 k l0 a1 a2 a3 true a4_0 a4_1 l4_2) else ((watchmanref18_Answer.f k a4_0 a4_1 l4_2).bind fun t294 => (watchmanref18_Put.j0 k l0 a1 a2 a3 (!t294) a4_0 a4_1 l4_2))))) else (watchmanref18_Put.j0 k l0 a1 a2 a3 true a4_0 a4_1 l4_2))) = some (r1, r2) := h
  clear h
  have HC6 := Aside0.mk H
  clear H
  go_enter Try.func21, Try.ntmps21
  go_upto_region 1 with (first | ((with_reducible refine gate_dst (N := 9) rfl ?_); refine box_event ?hg (N := 9) ?hd (cs := #[.int .i64 a4_0, .int .i64 a4_1, .slice A4_2 l4_2.length c4_2]) (t := 26) ?hr ?_; (case hd => rfl); (case hg => rfl); (case hr => first | (go_simp; done) | (go_simp; rfl)); intro gb292 hg w7 hbox hb; have BK292 := Aside0.mk (hbox); have GW292 := Aside0.mk ((by rw [hg]; exact (below_size (by repeat (first | (with_reducible first | exact HB.out | apply below_alloc | apply pw_below_drewN | apply below_drew1) | exact HB.out))) : w.heap.size ≤ gb292)); have GE292 := Aside0.mk ((by rw [hg]; exact (below_size (by repeat (first | (with_reducible first | exact HB.out | apply below_alloc | apply pw_below_drewN | apply below_drew1) | exact HB.out))) : w.heap.size ≤ gb292)); replace HB := Aside0.mk (below_step (by repeat (first | (with_reducible first | exact HB.out | apply below_alloc | apply pw_below_drewN | apply below_drew1) | exact HB.out)) hb); clear hb hbox hg))
  (try simp only [Act.put, List.setIfInBounds_toArray, List.set_cons_zero, List.set_cons_succ])
  go_cut [35] (fun v35 wc => ∃ (kq : Nat) (x35_5 : Bool), v35 = .bool x35_5 ∧ Aside0 (watchmanref18_Put.j0 kq l0 a1 a2 a3 x35_5 a4_0 a4_1 l4_2 = some (r1, r2)) ∧ Aside0 (kq ≤ k) ∧ Aside0 (wc.heap[gb292]? = some (.cells #[.int .i64 a4_0, .int .i64 a4_1, (.slice A4_2 l4_2.length c4_2)] 26 (0, 0))) ∧ Aside0 (Below w.heap.size w wc))
  case first =>
    have H := HC6.out
    clear HC6
    replace H := Option.bind_eq_some_iff.mp H
    obtain ⟨t293, A80, H⟩ := H
    replace H : (if t293 = true then (if a3 < 0 then (watchmanref18_Put.j0 k l0 a1 a2 a3 true a4_0 a4_1 l4_2) else (if a3 > 1000000000 then (watchmanref18_Put.j0 k l0 a1 a2 a3 true a4_0 a4_1 l4_2) else (if a2 > 1000000000 then (watchmanref18_Put.j0 k l0 a1 a2 a3 true a4_0 a4_1 l4_2) else ((watchmanref18_Answer.f k a4_0 a4_1 l4_2).bind fun t294 => (watchmanref18_Put.j0 k l0 a1 a2 a3 (!t294) a4_0 a4_1 l4_2))))) else (watchmanref18_Put.j0 k l0 a1 a2 a3 true a4_0 a4_1 l4_2)) = some (r1, r2) := H
    have A8 := Aside0.mk A80
    clear A80
    by_cases c9 : t293 = true
    · subst c9
      have H1 : (if a3 < 0 then (watchmanref18_Put.j0 k l0 a1 a2 a3 true a4_0 a4_1 l4_2) else (if a3 > 1000000000 then (watchmanref18_Put.j0 k l0 a1 a2 a3 true a4_0 a4_1 l4_2) else (if a2 > 1000000000 then (watchmanref18_Put.j0 k l0 a1 a2 a3 true a4_0 a4_1 l4_2) else ((watchmanref18_Answer.f k a4_0 a4_1 l4_2).bind fun t294 => (watchmanref18_Put.j0 k l0 a1 a2 a3 (!t294) a4_0 a4_1 l4_2))))) = some (r1, r2) := by rw [if_pos rfl] at H; exact H
      clear H
      have H := H1
      clear H1
      by_cases c10 : a3 < 0
      · rw [if_pos c10] at H
        have c10b0 : decide (a3 < 0) = true := decide_eq_true c10
        clear c10
        (first | rw [c10b0] | (simp only [i64_w, i32_w]; rw [c10b0]) | skip)
        have H' := Aside0.mk H
        clear H
        go_wp2_with (first | ((with_reducible refine gate_callee (f := 27) rfl ?_); refine goesL_ (some 17) rfl rfl Try.func27 (by kernel_rfl) rfl #[.slice A0 l0.length c0] rfl (by (try simp only [List.map_toArray, List.map_cons, List.map_nil]); first | done | rfl | (simp only [List.length_drop, List.length_take]; rfl)) ?_; (with_reducible refine (watchmanref18_Is.calls k _ _ l0 true _ ?side1 ?side2 A8.out).mono ?_); (case side1 => repeat (first | exact (Kd.C_below HR0.out HB.out) | (with_reducible refine Kd.C_alloc ?_ _) | (with_reducible refine Kd.C_drewN ?_ _) | (with_reducible refine Kd.C_drew ?_))); (case side2 => exact HC0.out); rintro e w11 ⟨rfl, hb⟩; refine ⟨_, rfl, ?_⟩; replace BK292 := Aside0.mk (blk_below (g := gb292) (o := .cells #[.int .i64 a4_0, .int .i64 a4_1, .slice A4_2 l4_2.length c4_2] 26 (0, 0)) (by (with_reducible repeat (first | refine blk_drewN ?_ _ | refine blk_drew ?_ | refine blk_alloc ?_ _)); exact BK292.out) hb); replace HB := Aside0.mk (below_step (by repeat (first | (with_reducible first | exact HB.out | apply below_alloc | apply pw_below_drewN | apply below_drew1 | refine below_set ?_ GE292.out) | exact HB.out)) hb); (try clear hb); (try clear hb2); (try clear hk); (try clear hi)))
        go_meet
        case rel => exact ⟨_, (true), (by first | rfl | (simp; done) | (simp [*]; done)), H', ⟨by first | omega | exact Nat.le_refl _⟩, ⟨by (with_reducible repeat (first | refine blk_drewN ?_ _ | refine blk_drew ?_ | refine blk_alloc ?_ _)); exact BK292.out⟩, ⟨by repeat (first | (with_reducible first | exact HB.out | apply below_alloc | apply pw_below_drewN | apply below_drew1 | refine below_set ?_ GE292.out) | exact HB.out)⟩⟩
      · rw [if_neg c10] at H
        have c10b0 : decide (a3 < 0) = false := decide_eq_false c10
        clear c10
        (first | rw [c10b0] | (simp only [i64_w, i32_w]; rw [c10b0]) | skip)
        by_cases c12 : a3 > 1000000000
        · rw [if_pos c12] at H
          have c12b0 : decide (1000000000 < a3) = true := decide_eq_true c12
          clear c12
          have H' := Aside0.mk H
          clear H
          go_wp2_with (first | ((with_reducible refine gate_callee (f := 27) rfl ?_); refine goesL_ (some 17) rfl rfl Try.func27 (by kernel_rfl) rfl #[.slice A0 l0.length c0] rfl (by (try simp only [List.map_toArray, List.map_cons, List.map_nil]); first | done | rfl | (simp only [List.length_drop, List.length_take]; rfl)) ?_; (with_reducible refine (watchmanref18_Is.calls k _ _ l0 true _ ?side1 ?side2 A8.out).mono ?_); (case side1 => repeat (first | exact (Kd.C_below HR0.out HB.out) | (with_reducible refine Kd.C_alloc ?_ _) | (with_reducible refine Kd.C_drewN ?_ _) | (with_reducible refine Kd.C_drew ?_))); (case side2 => exact HC0.out); rintro e w13 ⟨rfl, hb⟩; refine ⟨_, rfl, ?_⟩; replace BK292 := Aside0.mk (blk_below (g := gb292) (o := .cells #[.int .i64 a4_0, .int .i64 a4_1, .slice A4_2 l4_2.length c4_2] 26 (0, 0)) (by (with_reducible repeat (first | refine blk_drewN ?_ _ | refine blk_drew ?_ | refine blk_alloc ?_ _)); exact BK292.out) hb); replace HB := Aside0.mk (below_step (by repeat (first | (with_reducible first | exact HB.out | apply below_alloc | apply pw_below_drewN | apply below_drew1 | refine below_set ?_ GE292.out) | exact HB.out)) hb); (try clear hb); (try clear hb2); (try clear hk); (try clear hi)))
          go_meet
          case rel => exact ⟨_, (true), (by first | rfl | (simp; done) | (simp [*]; done)), H', ⟨by first | omega | exact Nat.le_refl _⟩, ⟨by (with_reducible repeat (first | refine blk_drewN ?_ _ | refine blk_drew ?_ | refine blk_alloc ?_ _)); exact BK292.out⟩, ⟨by repeat (first | (with_reducible first | exact HB.out | apply below_alloc | apply pw_below_drewN | apply below_drew1 | refine below_set ?_ GE292.out) | exact HB.out)⟩⟩
        · rw [if_neg c12] at H
          have c12b0 : decide (1000000000 < a3) = false := decide_eq_false c12
          clear c12
          by_cases c14 : a2 > 1000000000
          · rw [if_pos c14] at H
            have c14b0 : decide (1000000000 < a2) = true := decide_eq_true c14
            clear c14
            have H' := Aside0.mk H
            clear H
            go_wp2_with (first | ((with_reducible refine gate_callee (f := 27) rfl ?_); refine goesL_ (some 17) rfl rfl Try.func27 (by kernel_rfl) rfl #[.slice A0 l0.length c0] rfl (by (try simp only [List.map_toArray, List.map_cons, List.map_nil]); first | done | rfl | (simp only [List.length_drop, List.length_take]; rfl)) ?_; (with_reducible refine (watchmanref18_Is.calls k _ _ l0 true _ ?side1 ?side2 A8.out).mono ?_); (case side1 => repeat (first | exact (Kd.C_below HR0.out HB.out) | (with_reducible refine Kd.C_alloc ?_ _) | (with_reducible refine Kd.C_drewN ?_ _) | (with_reducible refine Kd.C_drew ?_))); (case side2 => exact HC0.out); rintro e w15 ⟨rfl, hb⟩; refine ⟨_, rfl, ?_⟩; replace BK292 := Aside0.mk (blk_below (g := gb292) (o := .cells #[.int .i64 a4_0, .int .i64 a4_1, .slice A4_2 l4_2.length c4_2] 26 (0, 0)) (by (with_reducible repeat (first | refine blk_drewN ?_ _ | refine blk_drew ?_ | refine blk_alloc ?_ _)); exact BK292.out) hb); replace HB := Aside0.mk (below_step (by repeat (first | (with_reducible first | exact HB.out | apply below_alloc | apply pw_below_drewN | apply below_drew1 | refine below_set ?_ GE292.out) | exact HB.out)) hb); (try clear hb); (try clear hb2); (try clear hk); (try clear hi)))
            go_meet
            case rel => exact ⟨_, (true), (by first | rfl | (simp; done) | (simp [*]; done)), H', ⟨by first | omega | exact Nat.le_refl _⟩, ⟨by (with_reducible repeat (first | refine blk_drewN ?_ _ | refine blk_drew ?_ | refine blk_alloc ?_ _)); exact BK292.out⟩, ⟨by repeat (first | (with_reducible first | exact HB.out | apply below_alloc | apply pw_below_drewN | apply below_drew1 | refine below_set ?_ GE292.out) | exact HB.out)⟩⟩
          · rw [if_neg c14] at H
            have c14b0 : decide (1000000000 < a2) = false := decide_eq_false c14
            clear c14
            replace H := Option.bind_eq_some_iff.mp H
            obtain ⟨t294, A160, H⟩ := H
            replace H : (watchmanref18_Put.j0 k l0 a1 a2 a3 (!t294) a4_0 a4_1 l4_2) = some (r1, r2) := H
            have A16 := Aside0.mk A160
            clear A160
            have H' := Aside0.mk H
            clear H
            go_wp2_with (first | ((with_reducible refine gate_callee (f := 27) rfl ?_); refine goesL_ (some 17) rfl rfl Try.func27 (by kernel_rfl) rfl #[.slice A0 l0.length c0] rfl (by (try simp only [List.map_toArray, List.map_cons, List.map_nil]); first | done | rfl | (simp only [List.length_drop, List.length_take]; rfl)) ?_; (with_reducible refine (watchmanref18_Is.calls k _ _ l0 true _ ?side1 ?side2 A8.out).mono ?_); (case side1 => repeat (first | exact (Kd.C_below HR0.out HB.out) | (with_reducible refine Kd.C_alloc ?_ _) | (with_reducible refine Kd.C_drewN ?_ _) | (with_reducible refine Kd.C_drew ?_))); (case side2 => exact HC0.out); rintro e w17 ⟨rfl, hb⟩; refine ⟨_, rfl, ?_⟩; replace BK292 := Aside0.mk (blk_below (g := gb292) (o := .cells #[.int .i64 a4_0, .int .i64 a4_1, .slice A4_2 l4_2.length c4_2] 26 (0, 0)) (by (with_reducible repeat (first | refine blk_drewN ?_ _ | refine blk_drew ?_ | refine blk_alloc ?_ _)); exact BK292.out) hb); replace HB := Aside0.mk (below_step (by repeat (first | (with_reducible first | exact HB.out | apply below_alloc | apply pw_below_drewN | apply below_drew1 | refine below_set ?_ GE292.out) | exact HB.out)) hb); (try clear hb); (try clear hb2); (try clear hk); (try clear hi); have hcz18_0 : w17.cell? ⟨gb292, 0, none⟩ = some (.int .i64 a4_0) := (blk_cell BK292.out 0).trans rfl; have hcz18_1 : w17.cell? ⟨gb292, 1, none⟩ = some (.int .i64 a4_1) := (blk_cell BK292.out 1).trans rfl; have hcz18_2 : w17.cell? ⟨gb292, 2, none⟩ = some (.slice A4_2 l4_2.length c4_2) := (blk_cell BK292.out 2).trans rfl; have hfz18_0 := blk_frozen BK292.out 0; have hfz18_1 := blk_frozen BK292.out 1; have hfz18_2 := blk_frozen BK292.out 2) | (go_at_call 39; (with_reducible refine (watchmanref18_Answer.calls k a4_0 a4_1 _ _ l4_2 t294 _ ?side1 ?side2 A16.out).mono ?_); (case side1 => repeat (first | exact (Kd.C_below HR4_2.out HB.out) | (with_reducible refine Kd.C_alloc ?_ _) | (with_reducible refine Kd.C_drewN ?_ _) | (with_reducible refine Kd.C_drew ?_))); (case side2 => exact HC4_2.out); rintro e w19 ⟨rfl, hb⟩; replace BK292 := Aside0.mk (blk_below (g := gb292) (o := .cells #[.int .i64 a4_0, .int .i64 a4_1, .slice A4_2 l4_2.length c4_2] 26 (0, 0)) (by (with_reducible repeat (first | refine blk_drewN ?_ _ | refine blk_drew ?_ | refine blk_alloc ?_ _)); exact BK292.out) hb); replace HB := Aside0.mk (below_step (by repeat (first | (with_reducible first | exact HB.out | apply below_alloc | apply pw_below_drewN | apply below_drew1 | refine below_set ?_ GE292.out) | exact HB.out)) hb); (try clear hb); (try clear hb2); (try clear hk); (try clear hi)))
            go_meet
            case rel => exact ⟨_, (!t294), (by first | rfl | (simp; done) | (simp [*]; done)), H', ⟨by first | omega | exact Nat.le_refl _⟩, ⟨by (with_reducible repeat (first | refine blk_drewN ?_ _ | refine blk_drew ?_ | refine blk_alloc ?_ _)); exact BK292.out⟩, ⟨by repeat (first | (with_reducible first | exact HB.out | apply below_alloc | apply pw_below_drewN | apply below_drew1 | refine below_set ?_ GE292.out) | exact HB.out)⟩⟩
    · replace c9 := Bool.eq_false_iff.mpr c9
      subst c9
      have H1 : (watchmanref18_Put.j0 k l0 a1 a2 a3 true a4_0 a4_1 l4_2) = some (r1, r2) := by rw [if_neg (show ¬ (false = true) by decide)] at H; exact H
      clear H
      have H := H1
      clear H1
      have H' := Aside0.mk H
      clear H
      go_wp2_with (first | ((with_reducible refine gate_callee (f := 27) rfl ?_); refine goesL_ (some 17) rfl rfl Try.func27 (by kernel_rfl) rfl #[.slice A0 l0.length c0] rfl (by (try simp only [List.map_toArray, List.map_cons, List.map_nil]); first | done | rfl | (simp only [List.length_drop, List.length_take]; rfl)) ?_; (with_reducible refine (watchmanref18_Is.calls k _ _ l0 false _ ?side1 ?side2 A8.out).mono ?_); (case side1 => repeat (first | exact (Kd.C_below HR0.out HB.out) | (with_reducible refine Kd.C_alloc ?_ _) | (with_reducible refine Kd.C_drewN ?_ _) | (with_reducible refine Kd.C_drew ?_))); (case side2 => exact HC0.out); rintro e w20 ⟨rfl, hb⟩; refine ⟨_, rfl, ?_⟩; replace BK292 := Aside0.mk (blk_below (g := gb292) (o := .cells #[.int .i64 a4_0, .int .i64 a4_1, .slice A4_2 l4_2.length c4_2] 26 (0, 0)) (by (with_reducible repeat (first | refine blk_drewN ?_ _ | refine blk_drew ?_ | refine blk_alloc ?_ _)); exact BK292.out) hb); replace HB := Aside0.mk (below_step (by repeat (first | (with_reducible first | exact HB.out | apply below_alloc | apply pw_below_drewN | apply below_drew1 | refine below_set ?_ GE292.out) | exact HB.out)) hb); (try clear hb); (try clear hb2); (try clear hk); (try clear hi)))
      go_meet
      case rel => exact ⟨_, (true), (by first | rfl | (simp; done) | (simp [*]; done)), H', ⟨by first | omega | exact Nat.le_refl _⟩, ⟨by (with_reducible repeat (first | refine blk_drewN ?_ _ | refine blk_drew ?_ | refine blk_alloc ?_ _)); exact BK292.out⟩, ⟨by repeat (first | (with_reducible first | exact HB.out | apply below_alloc | apply pw_below_drewN | apply below_drew1 | refine below_set ?_ GE292.out) | exact HB.out)⟩⟩
  case rest =>
    clear HC6
    try clear c1
    try clear c2
    try clear p2
    try clear c4
    try clear c9
    try clear c10
    try clear c10b0
    try clear c12
    try clear c12b0
    try clear c14
    try clear c14b0
    try clear hcz18_0
    try clear hcz18_1
    try clear hcz18_2
    try clear hfz18_0
    try clear hfz18_1
    try clear hfz18_2
    obtain ⟨kq, x35_5, rfl, HA, HJ5, BK292, HB⟩ := hcut
    cases kq with
    | zero => exact absurd HA.out (by simp [watchmanref18_Put.j0])
    | succ kj5 =>
      have H := HA.out
      clear HA
      simp only [watchmanref18_Put.j0] at H
      by_cases c21 : x35_5 = true
      · subst c21
        have H1 : (some (([] : List (S39)), 1)) = some (r1, r2) := by rw [if_pos rfl] at H; exact H
        clear H
        have H := H1
        clear H1
        simp only [Option.some.injEq, Prod.mk.injEq] at H
        obtain ⟨rfl, rfl⟩ := H
        go_wp2
        go_ret2
        exact ⟨_, by first | rfl | (simp [errW_none, errW_some] <;> rfl) | (simp [*, errW_none, errW_some] <;> rfl), by first | exact Kd.S_nil _ _ _ _ _ | exact Kd.N_nil _ _ _ _ _ | exact Kd.V_nil _ _ _ _ _ | exact Kd.Q_nil _ _ _ _ _ | exact Kd.R_nil _ _ _ _ _, by repeat (first | (with_reducible first | exact HB.out | apply below_alloc | apply pw_below_drewN | apply below_drew1 | refine below_set ?_ GE292.out) | exact HB.out)⟩
      · replace c21 := Bool.eq_false_iff.mpr c21
        subst c21
        have H1 : ((watchmanref18_Check.f kj5 l0 a1 a2).bind fun bt295 => (if bt295.2.2.2 = 3 then (some (([] : List (S39)), 181)) else (if bt295.2.2.2 = 0 then ((watchmanref18_Own.f kj5 l0).bind fun t302 => (watchmanref18_Put.l0 kj5 a1 a2 a3 t302 0 a4_0 a4_1 l4_2)) else (some (([] : List (S39)), 180))))) = some (r1, r2) := by rw [if_neg (show ¬ (false = true) by decide)] at H; exact H
        clear H
        have H := H1
        clear H1
        replace H := Option.bind_eq_some_iff.mp H
        obtain ⟨⟨t295, t296, t297, t300⟩, A220, H⟩ := H
        replace H : (if t300 = 3 then (some (([] : List (S39)), 181)) else (if t300 = 0 then ((watchmanref18_Own.f kj5 l0).bind fun t302 => (watchmanref18_Put.l0 kj5 a1 a2 a3 t302 0 a4_0 a4_1 l4_2)) else (some (([] : List (S39)), 180)))) = some (r1, r2) := H
        have A22 := Aside0.mk A220
        clear A220
        by_cases c23 : t300 = 3
        · rw [if_pos c23] at H
          have c23b0 : (t300 == 3) = true := beq_iff_eq.mpr c23
          have c23b1 : (t300 != 3) = false := bne_eq_false_iff_eq.mpr c23
          clear c23
          simp only [Option.some.injEq, Prod.mk.injEq] at H
          obtain ⟨rfl, rfl⟩ := H
          go_wp2_with (first | ((with_reducible refine gate_callee (f := 20) rfl ?_); refine goesL_ (some 40) rfl rfl Try.func20 (by kernel_rfl) rfl #[.slice A0 l0.length c0, .int .i64 a1, .int .i64 a2] rfl (by (try simp only [List.map_toArray, List.map_cons, List.map_nil]); first | done | rfl | (simp only [List.length_drop, List.length_take]; rfl)) ?_; (with_reducible refine (watchmanref18_Check.calls kj5 _ _ l0 a1 a2 t295 t296 t297 t300 _ ?side1 ?side2 A22.out).mono ?_); (case side1 => repeat (first | exact (Kd.C_below HR0.out HB.out) | (with_reducible refine Kd.C_alloc ?_ _) | (with_reducible refine Kd.C_drewN ?_ _) | (with_reducible refine Kd.C_drew ?_))); (case side2 => exact HC0.out); rintro e w24 ⟨v298, rfl, ho0, hb⟩; refine ⟨_, rfl, ?_⟩; have HO299 := Aside0.mk (Kd.R_lower ho0 (below_size (by repeat (first | (with_reducible first | exact HB.out | apply below_alloc | apply pw_below_drewN | apply below_drew1 | refine below_set ?_ GE292.out) | exact HB.out)))); replace BK292 := Aside0.mk (blk_below (g := gb292) (o := .cells #[.int .i64 a4_0, .int .i64 a4_1, .slice A4_2 l4_2.length c4_2] 26 (0, 0)) (by (with_reducible repeat (first | refine blk_drewN ?_ _ | refine blk_drew ?_ | refine blk_alloc ?_ _)); exact BK292.out) hb); replace HB := Aside0.mk (below_step (by repeat (first | (with_reducible first | exact HB.out | apply below_alloc | apply pw_below_drewN | apply below_drew1 | refine below_set ?_ GE292.out) | exact HB.out)) hb); (try clear hb); (try clear hb2); (try clear hk); (try clear hi); (try clear ho0)) | ((with_reducible refine gate_dst (N := 12) rfl ?_); refine box_event ?hg (N := 12) ?hd (cs := #[.int .i64 0, .int .i64 0, .slice none 0 0]) (t := 26) ?hr ?_; (case hd => rfl); (case hg => rfl); (case hr => first | (go_simp; done) | (go_simp; rfl)); intro gb301 hg w25 hbox hb; replace HO299 := Aside0.mk (Kd.R_below (by (with_reducible repeat (first | apply Kd.R_alloc | apply Kd.R_drewN | apply Kd.R_drew)); exact HO299.out) hb); have BK301 := Aside0.mk (hbox); have GW301 := Aside0.mk ((by rw [hg]; exact (below_size (by repeat (first | (with_reducible first | exact HB.out | apply below_alloc | apply pw_below_drewN | apply below_drew1 | refine below_set ?_ GE292.out) | exact HB.out))) : w.heap.size ≤ gb301)); have GE301 := Aside0.mk ((by rw [hg]; exact (below_size (by repeat (first | (with_reducible first | exact HB.out | apply below_alloc | apply pw_below_drewN | apply below_drew1 | refine below_set ?_ GE292.out) | exact HB.out))) : w.heap.size ≤ gb301)); replace HB := Aside0.mk (below_step (by repeat (first | (with_reducible first | exact HB.out | apply below_alloc | apply pw_below_drewN | apply below_drew1 | refine below_set ?_ GE292.out) | exact HB.out)) hb); have NB292_301 := Aside0.mk ((by rw [hg]; exact Nat.ne_of_lt (blk_lt (g := gb292) (o := .cells #[.int .i64 a4_0, .int .i64 a4_1, .slice A4_2 l4_2.length c4_2] 26 (0, 0)) (by (with_reducible repeat (first | refine blk_drewN ?_ _ | refine blk_drew ?_ | refine blk_alloc ?_ _)); exact BK292.out)) : gb292 ≠ gb301)); have NB301_292 := Aside0.mk ((by rw [hg]; exact Nat.ne_of_gt (blk_lt (g := gb292) (o := .cells #[.int .i64 a4_0, .int .i64 a4_1, .slice A4_2 l4_2.length c4_2] 26 (0, 0)) (by (with_reducible repeat (first | refine blk_drewN ?_ _ | refine blk_drew ?_ | refine blk_alloc ?_ _)); exact BK292.out)) : gb301 ≠ gb292)); replace BK292 := Aside0.mk (blk_below (g := gb292) (o := .cells #[.int .i64 a4_0, .int .i64 a4_1, .slice A4_2 l4_2.length c4_2] 26 (0, 0)) (by (with_reducible repeat (first | refine blk_drewN ?_ _ | refine blk_drew ?_ | refine blk_alloc ?_ _)); exact BK292.out) hb); clear hb hbox hg; have hnb26 := NB301_292.out; have hnc26 := NB292_301.out; have hcz27_0 : w25.cell? ⟨gb301, 0, none⟩ = some (.int .i64 0) := (blk_cell BK301.out 0).trans rfl; have hcz27_1 : w25.cell? ⟨gb301, 1, none⟩ = some (.int .i64 0) := (blk_cell BK301.out 1).trans rfl; have hcz27_2 : w25.cell? ⟨gb301, 2, none⟩ = some (.slice none 0 0) := (blk_cell BK301.out 2).trans rfl; have hfz27_0 := blk_frozen BK301.out 0; have hfz27_1 := blk_frozen BK301.out 1; have hfz27_2 := blk_frozen BK301.out 2; obtain ⟨Ao28, co28, eo28⟩ := Kd.R_slice HO299.out; subst eo28))
          go_ret2
          exact ⟨_, by first | rfl | (simp [errW_none, errW_some] <;> rfl) | (simp [*, errW_none, errW_some] <;> rfl), by first | exact Kd.S_nil _ _ _ _ _ | exact Kd.N_nil _ _ _ _ _ | exact Kd.V_nil _ _ _ _ _ | exact Kd.Q_nil _ _ _ _ _ | exact Kd.R_nil _ _ _ _ _, by repeat (first | (with_reducible first | exact HB.out | apply below_alloc | apply pw_below_drewN | apply below_drew1 | refine below_set ?_ GE292.out | refine below_set ?_ GE301.out) | exact HB.out)⟩
        · rw [if_neg c23] at H
          have c23b0 : (t300 == 3) = false := beq_eq_false_iff_ne.mpr c23
          have c23b1 : (t300 != 3) = true := bne_iff_ne.mpr c23
          by_cases c29 : t300 = 0
          · rw [if_pos c29] at H
            have c29b0 : (t300 == 0) = true := beq_iff_eq.mpr c29
            have c29b1 : (t300 != 0) = false := bne_eq_false_iff_eq.mpr c29
            clear c29
            replace H := Option.bind_eq_some_iff.mp H
            obtain ⟨t302, A300, H⟩ := H
            replace H : (watchmanref18_Put.l0 kj5 a1 a2 a3 t302 0 a4_0 a4_1 l4_2) = some (r1, r2) := H
            have A30 := Aside0.mk A300
            clear A300
            have H' := Aside0.mk H
            clear H
            go_wp2_with (first | ((with_reducible refine gate_callee (f := 20) rfl ?_); refine goesL_ (some 40) rfl rfl Try.func20 (by kernel_rfl) rfl #[.slice A0 l0.length c0, .int .i64 a1, .int .i64 a2] rfl (by (try simp only [List.map_toArray, List.map_cons, List.map_nil]); first | done | rfl | (simp only [List.length_drop, List.length_take]; rfl)) ?_; (with_reducible refine (watchmanref18_Check.calls kj5 _ _ l0 a1 a2 t295 t296 t297 t300 _ ?side1 ?side2 A22.out).mono ?_); (case side1 => repeat (first | exact (Kd.C_below HR0.out HB.out) | (with_reducible refine Kd.C_alloc ?_ _) | (with_reducible refine Kd.C_drewN ?_ _) | (with_reducible refine Kd.C_drew ?_))); (case side2 => exact HC0.out); rintro e w31 ⟨v298, rfl, ho0, hb⟩; refine ⟨_, rfl, ?_⟩; have HO299 := Aside0.mk (Kd.R_lower ho0 (below_size (by repeat (first | (with_reducible first | exact HB.out | apply below_alloc | apply pw_below_drewN | apply below_drew1 | refine below_set ?_ GE292.out) | exact HB.out)))); replace BK292 := Aside0.mk (blk_below (g := gb292) (o := .cells #[.int .i64 a4_0, .int .i64 a4_1, .slice A4_2 l4_2.length c4_2] 26 (0, 0)) (by (with_reducible repeat (first | refine blk_drewN ?_ _ | refine blk_drew ?_ | refine blk_alloc ?_ _)); exact BK292.out) hb); replace HB := Aside0.mk (below_step (by repeat (first | (with_reducible first | exact HB.out | apply below_alloc | apply pw_below_drewN | apply below_drew1 | refine below_set ?_ GE292.out) | exact HB.out)) hb); (try clear hb); (try clear hb2); (try clear hk); (try clear hi); (try clear ho0)) | ((with_reducible refine gate_dst (N := 12) rfl ?_); refine box_event ?hg (N := 12) ?hd (cs := #[.int .i64 0, .int .i64 0, .slice none 0 0]) (t := 26) ?hr ?_; (case hd => rfl); (case hg => rfl); (case hr => first | (go_simp; done) | (go_simp; rfl)); intro gb301 hg w32 hbox hb; replace HO299 := Aside0.mk (Kd.R_below (by (with_reducible repeat (first | apply Kd.R_alloc | apply Kd.R_drewN | apply Kd.R_drew)); exact HO299.out) hb); have BK301 := Aside0.mk (hbox); have GW301 := Aside0.mk ((by rw [hg]; exact (below_size (by repeat (first | (with_reducible first | exact HB.out | apply below_alloc | apply pw_below_drewN | apply below_drew1 | refine below_set ?_ GE292.out) | exact HB.out))) : w.heap.size ≤ gb301)); have GE301 := Aside0.mk ((by rw [hg]; exact (below_size (by repeat (first | (with_reducible first | exact HB.out | apply below_alloc | apply pw_below_drewN | apply below_drew1 | refine below_set ?_ GE292.out) | exact HB.out))) : w.heap.size ≤ gb301)); replace HB := Aside0.mk (below_step (by repeat (first | (with_reducible first | exact HB.out | apply below_alloc | apply pw_below_drewN | apply below_drew1 | refine below_set ?_ GE292.out) | exact HB.out)) hb); have NB292_301 := Aside0.mk ((by rw [hg]; exact Nat.ne_of_lt (blk_lt (g := gb292) (o := .cells #[.int .i64 a4_0, .int .i64 a4_1, .slice A4_2 l4_2.length c4_2] 26 (0, 0)) (by (with_reducible repeat (first | refine blk_drewN ?_ _ | refine blk_drew ?_ | refine blk_alloc ?_ _)); exact BK292.out)) : gb292 ≠ gb301)); have NB301_292 := Aside0.mk ((by rw [hg]; exact Nat.ne_of_gt (blk_lt (g := gb292) (o := .cells #[.int .i64 a4_0, .int .i64 a4_1, .slice A4_2 l4_2.length c4_2] 26 (0, 0)) (by (with_reducible repeat (first | refine blk_drewN ?_ _ | refine blk_drew ?_ | refine blk_alloc ?_ _)); exact BK292.out)) : gb301 ≠ gb292)); replace BK292 := Aside0.mk (blk_below (g := gb292) (o := .cells #[.int .i64 a4_0, .int .i64 a4_1, .slice A4_2 l4_2.length c4_2] 26 (0, 0)) (by (with_reducible repeat (first | refine blk_drewN ?_ _ | refine blk_drew ?_ | refine blk_alloc ?_ _)); exact BK292.out) hb); clear hb hbox hg; have hnb33 := NB301_292.out; have hnc33 := NB292_301.out; have hcz34_0 : w32.cell? ⟨gb301, 0, none⟩ = some (.int .i64 0) := (blk_cell BK301.out 0).trans rfl; have hcz34_1 : w32.cell? ⟨gb301, 1, none⟩ = some (.int .i64 0) := (blk_cell BK301.out 1).trans rfl; have hcz34_2 : w32.cell? ⟨gb301, 2, none⟩ = some (.slice none 0 0) := (blk_cell BK301.out 2).trans rfl; have hfz34_0 := blk_frozen BK301.out 0; have hfz34_1 := blk_frozen BK301.out 1; have hfz34_2 := blk_frozen BK301.out 2; obtain ⟨Ao35, co35, eo35⟩ := Kd.R_slice HO299.out; subst eo35) | ((with_reducible refine gate_callee (f := 18) rfl ?_); refine goesL_ (some 48) rfl rfl Try.func18 (by kernel_rfl) rfl #[.slice A0 l0.length c0] rfl (by (try simp only [List.map_toArray, List.map_cons, List.map_nil]); first | done | rfl | (simp only [List.length_drop, List.length_take]; rfl)) ?_; (with_reducible refine (watchmanref18_Own.calls kj5 _ _ l0 t302 _ ?side1 ?side2 A30.out).mono ?_); (case side1 => exact Kd.C_below HR0.out (by repeat (first | (with_reducible first | exact HB.out | apply below_alloc | apply pw_below_drewN | apply below_drew1 | refine below_set ?_ GE292.out | refine below_set ?_ GE301.out) | exact HB.out))); (case side2 => exact HC0.out); rintro e w36 ⟨v303, rfl, ho0, hb⟩; refine ⟨_, rfl, ?_⟩; have HO304 := Aside0.mk (Kd.S_lower (Kd.S_new' ho0 (Kd.R_lt (by (with_reducible repeat (first | apply Kd.R_alloc | apply Kd.R_drewN | apply Kd.R_drew)); exact (Kd.R_mono (rf3 (Kd.R_types HO299.out BK301.out (by decide)) (fun _ hk => hk.2) (.int .i64 t295) (.int .i64 t296) (.slice Ao35 t297.length co35)) (fun _ h_ => h_.1))))) (below_size (by repeat (first | (with_reducible first | exact HB.out | apply below_alloc | apply pw_below_drewN | apply below_drew1 | refine below_set ?_ GE292.out | refine below_set ?_ GE301.out) | exact HB.out)))); replace HO299 := Aside0.mk (Kd.R_below (by (with_reducible repeat (first | apply Kd.R_alloc | apply Kd.R_drewN | apply Kd.R_drew)); exact (Kd.R_mono (rf3 (Kd.R_types HO299.out BK301.out (by decide)) (fun _ hk => hk.2) (.int .i64 t295) (.int .i64 t296) (.slice Ao35 t297.length co35)) (fun _ h_ => h_.1))) hb); replace BK292 := Aside0.mk (blk_below (g := gb292) (o := .cells #[.int .i64 a4_0, .int .i64 a4_1, .slice A4_2 l4_2.length c4_2] 26 (0, 0)) (by (with_reducible repeat (first | refine blk_drewN ?_ _ | refine blk_drew ?_ | refine blk_alloc ?_ _)); refine blk_far ?_ NB292_301.out _; (with_reducible repeat (first | refine blk_drewN ?_ _ | refine blk_drew ?_ | refine blk_alloc ?_ _)); refine blk_far ?_ NB292_301.out _; (with_reducible repeat (first | refine blk_drewN ?_ _ | refine blk_drew ?_ | refine blk_alloc ?_ _)); refine blk_far ?_ NB292_301.out _; (with_reducible repeat (first | refine blk_drewN ?_ _ | refine blk_drew ?_ | refine blk_alloc ?_ _)); exact BK292.out) hb); replace BK301 := Aside0.mk (blk_below (g := gb301) (o := .cells #[.int .i64 t295, .int .i64 t296, .slice Ao35 t297.length co35] 26 (0, 0)) (by (with_reducible repeat (first | refine blk_drewN ?_ _ | refine blk_drew ?_ | refine blk_alloc ?_ _)); refine blk_put (cs := #[.int .i64 t295, .int .i64 t296, .slice none 0 0]) ?_ 2 _ rfl; (with_reducible repeat (first | refine blk_drewN ?_ _ | refine blk_drew ?_ | refine blk_alloc ?_ _)); refine blk_put (cs := #[.int .i64 t295, .int .i64 0, .slice none 0 0]) ?_ 1 _ rfl; (with_reducible repeat (first | refine blk_drewN ?_ _ | refine blk_drew ?_ | refine blk_alloc ?_ _)); refine blk_put (cs := #[.int .i64 0, .int .i64 0, .slice none 0 0]) ?_ 0 _ rfl; (with_reducible repeat (first | refine blk_drewN ?_ _ | refine blk_drew ?_ | refine blk_alloc ?_ _)); exact BK301.out) hb); replace HB := Aside0.mk (below_step (by repeat (first | (with_reducible first | exact HB.out | apply below_alloc | apply pw_below_drewN | apply below_drew1 | refine below_set ?_ GE292.out | refine below_set ?_ GE301.out) | exact HB.out)) hb); (try clear hb); (try clear hb2); (try clear hk); (try clear hi); (try clear ho0)))
            go_loopg [15] kj5 (fun kq v15 w' => ∃ (x14_2 : List (S39)) (x15_2 : Int), v15 = .int .i64 x15_2 ∧ Aside0 (watchmanref18_Put.l0 kq a1 a2 a3 x14_2 x15_2 a4_0 a4_1 l4_2 = some (r1, r2)) ∧ Aside0 (kq ≤ kj5) ∧ Aside0 (Kd.S k39 39 w' w.heap.size (fun k_ => some k_ ≠ ((.slice Ao35 t297.length co35) : Value).ownBlock) v303 x14_2) ∧ Aside0 (Kd.R Kd.string 9 w' w.heap.size (fun _ => True) (.slice Ao35 t297.length co35) t297) ∧ Aside0 (w'.heap[gb292]? = some (.cells #[.int .i64 a4_0, .int .i64 a4_1, (.slice A4_2 l4_2.length c4_2)] 26 (0, 0))) ∧ Aside0 (w'.heap[gb301]? = some (.cells #[.int .i64 t295, .int .i64 t296, (.slice Ao35 t297.length co35)] 26 (0, 0))) ∧ Aside0 (Below w.heap.size w w'))
            case atStart => exact ⟨(t302), (0), (by first | rfl | (simp; done) | (simp [*]; done)), H', ⟨Nat.le_refl _⟩, ⟨by (with_reducible repeat (first | apply Kd.S_alloc | apply Kd.S_drewN | apply Kd.S_drew)); exact Kd.S_mono HO304.out (fun _ hk => hk.2)⟩, ⟨by (with_reducible repeat (first | apply Kd.R_alloc | apply Kd.R_drewN | apply Kd.R_drew)); exact HO299.out⟩, ⟨by (with_reducible repeat (first | refine blk_drewN ?_ _ | refine blk_drew ?_ | refine blk_alloc ?_ _)); exact BK292.out⟩, ⟨by (with_reducible repeat (first | refine blk_drewN ?_ _ | refine blk_drew ?_ | refine blk_alloc ?_ _)); exact BK301.out⟩, ⟨by repeat (first | (with_reducible first | exact HB.out | apply below_alloc | apply pw_below_drewN | apply below_drew1 | refine below_set ?_ GE292.out | refine below_set ?_ GE301.out) | exact HB.out)⟩⟩
            case round =>
              clear H'
              try clear c1
              try clear c2
              try clear p2
              try clear c3
              try clear c4
              try clear c9
              try clear c10
              try clear c10b0
              try clear c12
              try clear c12b0
              try clear c14
              try clear c14b0
              try clear c18
              try clear c20
              try clear c21
              try clear c23
              try clear c23b0
              try clear c23b1
              try clear c26
              try clear c27
              try clear c29
              try clear c29b0
              try clear c29b1
              try clear c33
              try clear hcz18_0
              try clear hcz18_1
              try clear hcz18_2
              try clear hcz27_0
              try clear hcz27_1
              try clear hcz27_2
              try clear hcz34_0
              try clear hcz34_1
              try clear hcz34_2
              try clear hfz18_0
              try clear hfz18_1
              try clear hfz18_2
              try clear hfz27_0
              try clear hfz27_1
              try clear hfz27_2
              try clear hfz34_0
              try clear hfz34_1
              try clear hfz34_2
              try clear p2
              obtain ⟨x14_2, x15_2, rfl, HA, HK2, HO_14, HO_302002, BK292, BK301, HB⟩ := hrel
              cases gk with
              | zero => exact absurd HA.out (by simp [watchmanref18_Put.l0])
              | succ k2 =>
                have H := HA.out
                clear HA
                simp only [watchmanref18_Put.l0] at H
                by_cases c37 : x15_2 < (x14_2.length : Int)
                · rw [if_pos c37] at H
                  have c37b0 : decide (x15_2 < (x14_2.length : Int)) = true := decide_eq_true c37
                  clear c37
                  by_cases c38 : 0 ≤ x15_2
                  · rw [if_pos c38] at H
                    have c38b0 : decide (0 ≤ x15_2) = true := decide_eq_true c38
                    clear c38
                    by_cases c39 : ((rd_T39 x14_2 x15_2).f0) = a1
                    · rw [if_pos c39] at H
                      have c39b0 : (((rd_T39 x14_2 x15_2).f0) == a1) = true := beq_iff_eq.mpr c39
                      have c39b1 : (((rd_T39 x14_2 x15_2).f0) != a1) = false := bne_eq_false_iff_eq.mpr c39
                      clear c39
                      replace H := Option.bind_eq_some_iff.mp H
                      obtain ⟨⟨t306, t307, t308⟩, A400, H⟩ := H
                      replace H : (watchmanref18_Put.l0 k2 a1 a2 a3 (x14_2.set (x15_2 : Int).toNat (⟨a1, a2, a3, (⟨t306, t307, t308⟩ : S26)⟩ : S39)) (wrap64 (x15_2 + 1)) a4_0 a4_1 l4_2) = some (r1, r2) := H
                      have A40 := Aside0.mk A400
                      clear A400
                      obtain ⟨y311, hy311⟩ : ∃ y_ : List (S39), y_ = (x14_2.set (x15_2 : Int).toNat (⟨a1, a2, a3, (⟨t306, t307, t308⟩ : S26)⟩ : S39)) := ⟨_, rfl⟩
                      replace H : (watchmanref18_Put.l0 k2 a1 a2 a3 y311 (wrap64 (x15_2 + 1)) a4_0 a4_1 l4_2) = some (r1, r2) := by first | (rw [hy311]; with_reducible exact H) | (have H2_ := (Option.bind_some _ _).symm.trans H; rw [hy311]; with_reducible exact H2_) | (have H2_ := (Option.bind_some _ _).symm.trans H; with_reducible exact H2_) | with_reducible exact H | (rw [hy311]; exact H) | exact H
                      have Ny311 := Aside0.mk hy311
                      clear hy311
                      have H' := Aside0.mk H
                      clear H
                      obtain ⟨Ao42, co42, eo42⟩ := Kd.S_slice HO_14.out
                      subst eo42
                      have p305 : 0 ≤ (x15_2 : Int) := of_decide_eq_true (by first | (with_reducible assumption) | assumption)
                      have q305 : x15_2 < (x14_2.length : Int) := of_decide_eq_true (by first | (with_reducible assumption) | assumption)
                      obtain ⟨ad305, A305_5, c305_5, e305, hx305_0, hx305_1, hx305_2, hx305_3, hx305_4, hx305_5, hl305_5, hi305_5⟩ := at_T39 (Kd.S_reads' HO_14.out).2.2 x15_2 p305 q305
                      cases e305
                      obtain ⟨ce305, hce305, hMe305, hcc305⟩ := Kd.S_get HO_14.out z39 x15_2 p305 (by first | exact q305 | exact of_decide_eq_true (by first | (with_reducible assumption) | assumption) | (have e_ := (Kd.S_reads' HO_14.out).1; omega))
                      obtain ⟨ve305_5, rfl, ge305_5⟩ := k39_openM hMe305
                      have hv305_5 := hcc305 5 _ rfl
                      rw [add_field _ _ 5 (by omega)] at hv305_5
                      replace hv305_5 := Option.some.inj (hv305_5.symm.trans hx305_5)
                      rw [hv305_5] at ge305_5
                      have HL305_5 := Aside0.mk (show Kd.R Kd.string 9 _ _ _ _ ((rd_T39 x14_2 x15_2).f3.f2) from ge305_5)
                      clear hv305_5 ge305_5
                      clear hcc305 hce305
                      have HR305_5 := Aside0.mk hi305_5
                      have HC305_5 := Aside0.mk hl305_5
                      clear hi305_5 hl305_5
                      replace p305 := eq_true p305
                      replace q305 := eq_true q305
                      have hnb43 := NB292_301.out
                      have hnc43 := NB301_292.out
                      have hcz44_0 : wr.cell? ⟨gb292, 0, none⟩ = some (.int .i64 a4_0) := (blk_cell BK292.out 0).trans rfl
                      have hcz44_1 : wr.cell? ⟨gb292, 1, none⟩ = some (.int .i64 a4_1) := (blk_cell BK292.out 1).trans rfl
                      have hcz44_2 : wr.cell? ⟨gb292, 2, none⟩ = some (.slice A4_2 l4_2.length c4_2) := (blk_cell BK292.out 2).trans rfl
                      have hfz44_0 := blk_frozen BK292.out 0
                      have hfz44_1 := blk_frozen BK292.out 1
                      have hfz44_2 := blk_frozen BK292.out 2
                      go_wp2_with (first | ((with_reducible refine gate_callee (f := 17) rfl ?_); refine goesL_ (some 68) rfl rfl Try.func17 (by kernel_rfl) rfl #[.agg #[.int .i64 a4_0, .int .i64 a4_1, .slice A4_2 l4_2.length c4_2]] rfl (by (try simp only [List.map_toArray, List.map_cons, List.map_nil]); first | done | rfl | (simp only [List.length_drop, List.length_take]; rfl)) ?_; (with_reducible refine (watchmanref18_OwnAnswer.calls a4_0 a4_1 _ _ l4_2 t306 t307 t308 _ ?side1 ?side2 A40.out).mono ?_); (case side1 => repeat (first | exact (Kd.C_below HR4_2.out HB.out) | (with_reducible refine Kd.C_alloc ?_ _) | (with_reducible refine Kd.C_drewN ?_ _) | (with_reducible refine Kd.C_drew ?_))); (case side2 => exact HC4_2.out); rintro e w45 ⟨v309, rfl, ho0, hb⟩; refine ⟨_, rfl, ?_⟩; replace HO_14 := Aside0.mk (Kd.S_elder' (by (with_reducible repeat (first | apply Kd.S_alloc | apply Kd.S_drewN | apply Kd.S_drew)); exact HO_14.out) (Kd.R_base ho0) hb); have HO310 := Aside0.mk (Kd.R_lower (Kd.R_new' (Kd.R_new' ho0 (Kd.R_lt (by (with_reducible repeat (first | apply Kd.R_alloc | apply Kd.R_drewN | apply Kd.R_drew)); exact HO_302002.out))) (Kd.R_lt (by (with_reducible repeat (first | apply Kd.R_alloc | apply Kd.R_drewN | apply Kd.R_drew)); exact HL305_5.out))) (below_size (by repeat (first | (with_reducible first | exact HB.out | apply below_alloc | apply pw_below_drewN | apply below_drew1 | refine below_set ?_ GE292.out | refine below_set ?_ GE301.out) | exact HB.out)))); replace HO_302002 := Aside0.mk (Kd.R_elder' (by (with_reducible repeat (first | apply Kd.R_alloc | apply Kd.R_drewN | apply Kd.R_drew)); exact HO_302002.out) (Kd.R_base ho0) hb); replace HL305_5 := Aside0.mk (Kd.R_elder' (by (with_reducible repeat (first | apply Kd.R_alloc | apply Kd.R_drewN | apply Kd.R_drew)); exact HL305_5.out) (Kd.R_base ho0) hb); replace BK292 := Aside0.mk (blk_below (g := gb292) (o := .cells #[.int .i64 a4_0, .int .i64 a4_1, .slice A4_2 l4_2.length c4_2] 26 (0, 0)) (by (with_reducible repeat (first | refine blk_drewN ?_ _ | refine blk_drew ?_ | refine blk_alloc ?_ _)); exact BK292.out) hb); replace BK301 := Aside0.mk (blk_below (g := gb301) (o := .cells #[.int .i64 t295, .int .i64 t296, .slice Ao35 t297.length co35] 26 (0, 0)) (by (with_reducible repeat (first | refine blk_drewN ?_ _ | refine blk_drew ?_ | refine blk_alloc ?_ _)); exact BK301.out) hb); replace HR305_5 := Aside0.mk (Kd.C_below (by repeat (first | (with_reducible exact HR305_5.out) | (with_reducible refine Kd.C_alloc ?_ _) | (with_reducible refine Kd.C_drewN ?_ _) | (with_reducible refine Kd.C_drew ?_) | exact HR305_5.out)) hb); replace HB := Aside0.mk (below_step (by repeat (first | (with_reducible first | exact HB.out | apply below_alloc | apply pw_below_drewN | apply below_drew1 | refine below_set ?_ GE292.out | refine below_set ?_ GE301.out) | exact HB.out)) hb); (try clear hb); (try clear hb2); (try clear hk); (try clear hi); (try clear ho0); obtain ⟨Ao46, co46, eo46⟩ := Kd.R_slice HO310.out; subst eo46; have p41 : 0 ≤ (x15_2 : Int) := of_decide_eq_true (by first | (with_reducible assumption) | assumption); have q41 : (x15_2 : Int) < ((x14_2.length : Int) : Int) := of_decide_eq_true (by first | (with_reducible assumption) | assumption); obtain ⟨go41, co41, eo41, gb41, gl41, cl41, HG41⟩ := Kd.S_form HO_14.out (by omega); (first | cases eo41 | (injection eo41 with ea_ en_ ec_; (first | subst ea_ | (injection ea_ with ea_; subst ea_)); subst ec_; clear en_)); have GB41 := Aside0.mk gb41; have GG41 := Aside0.mk HG41; clear gb41 gl41 HG41; (first | simp only [add_plain] at hx305_0 | skip); (first | simp only [add_plain] at hx305_1 | skip); (first | simp only [add_plain] at hx305_2 | skip); (first | simp only [add_plain] at hx305_3 | skip); (first | simp only [add_plain] at hx305_4 | skip); (first | simp only [add_plain] at hx305_5 | skip); obtain ⟨_, ce41, hcl41, hM41, hcc41, hfr41, _, _⟩ := Kd.S_elem HO_14.out z39 (x15_2 : Int) p41 q41; obtain ⟨ve41_5, rfl, ge41_5⟩ := k39_openM hM41; have hx41_0 : w45.cell? ⟨go41, (x15_2 : Int).toNat * 6, none⟩ = some (.int .i64 ((rd_T39 x14_2 x15_2).f0)) := hcc41 0 _ rfl; have hx41_1 : w45.cell? ⟨go41, (x15_2 : Int).toNat * 6 + 1, none⟩ = some (.int .i64 ((rd_T39 x14_2 x15_2).f1)) := hcc41 1 _ rfl; have hx41_2 : w45.cell? ⟨go41, (x15_2 : Int).toNat * 6 + 2, none⟩ = some (.int .i64 ((rd_T39 x14_2 x15_2).f2)) := hcc41 2 _ rfl; have hx41_3 : w45.cell? ⟨go41, (x15_2 : Int).toNat * 6 + 3, none⟩ = some (.int .i64 ((rd_T39 x14_2 x15_2).f3.f0)) := hcc41 3 _ rfl; have hx41_4 : w45.cell? ⟨go41, (x15_2 : Int).toNat * 6 + 4, none⟩ = some (.int .i64 ((rd_T39 x14_2 x15_2).f3.f1)) := hcc41 4 _ rfl; have hx41_5 : w45.cell? ⟨go41, (x15_2 : Int).toNat * 6 + 5, none⟩ = some (ve41_5) := hcc41 5 _ rfl; have hf41_0 : w45.frozen? ⟨go41, (x15_2 : Int).toNat * 6, none⟩ = false := hfr41 0; have hf41_1 : w45.frozen? ⟨go41, (x15_2 : Int).toNat * 6 + 1, none⟩ = false := hfr41 1; have hf41_2 : w45.frozen? ⟨go41, (x15_2 : Int).toNat * 6 + 2, none⟩ = false := hfr41 2; have hf41_3 : w45.frozen? ⟨go41, (x15_2 : Int).toNat * 6 + 3, none⟩ = false := hfr41 3; have hf41_4 : w45.frozen? ⟨go41, (x15_2 : Int).toNat * 6 + 4, none⟩ = false := hfr41 4; have hf41_5 : w45.frozen? ⟨go41, (x15_2 : Int).toNat * 6 + 5, none⟩ = false := hfr41 5; clear hcl41 hcc41 hfr41 hM41; replace p41 := eq_true p41; replace q41 := eq_true q41; have HX47 := Aside0.mk (show Kd.S k39 39 w45 w.heap.size (fun k_ => ((fun k_ => some k_ ≠ (.slice Ao35 t297.length co35 : Value).ownBlock)) k_ ∧ ¬ ((fun k_ => some k_ = (.slice Ao46 t308.length co46 : Value).ownBlock)) k_) (.slice (some ⟨go41, 0, none⟩) x14_2.length co42) x14_2 from (by (with_reducible repeat (first | apply Kd.S_alloc | apply Kd.S_drewN | apply Kd.S_drew)); exact Kd.S_mono HO_14.out (fun k_ hk => ⟨hk.1, fun e_ => hk.2 e_⟩))); obtain ⟨oki47, ce47, hcl47, hM47, hcc47, hfr47, hoki47, hH47⟩ := Kd.S_elem HX47.out z39 (x15_2 : Int) (of_decide_eq_true (by first | (with_reducible assumption) | assumption)) (by have h_ : (x15_2 : Int) < ((x14_2.length : Int) : Int) := of_decide_eq_true (by first | (with_reducible assumption) | assumption); first | exact h_ | (have e_ := (Kd.S_reads' HO_14.out).1; omega) | simpa using h_); obtain ⟨ve47_5, rfl, ge47_5⟩ := k39_openM hM47; have HP47 := Kd.S_seg hH47 (of_decide_eq_true (by first | (with_reducible assumption) | assumption)) (by have h_ : (x15_2 : Int) < ((x14_2.length : Int) : Int) := of_decide_eq_true (by first | (with_reducible assumption) | assumption); first | exact h_ | (have e_ := (Kd.S_reads' HO_14.out).1; omega) | simpa using h_) (seg := [.int .i64 a1, .int .i64 a2, .int .i64 a3, .int .i64 t306, .int .i64 t307, .slice Ao46 t308.length co46]) (j := 0) (show 6 ≤ 6 from by decide) (x' := (⟨a1, a2, a3, (⟨t306, t307, t308⟩ : S26)⟩ : S39)) (k39_mkM _ _ _ (⟨a1, a2, a3, (⟨t306, t307, t308⟩ : S26)⟩ : S39) (Kd.R_mono (Kd.R_tight rfl (Kd.R_mono (ok' := fun k_ => ((fun k_ => some k_ ≠ (.slice Ao35 t297.length co35 : Value).ownBlock)) k_ ∧ k_ ≠ go41) (Kd.R_apart' (HO310.out) (Kd.S_typed HO_14.out) (by decide)) (fun k_ hk => ⟨hk.1.1.2, fun e_ => (hk.2) (by rw [e_]; rfl)⟩))) (fun _ h_ => Or.inr (h_)))) (fun _ hk => hk) (fun k_ hk_ => ((Kd.R_mono (ok' := fun k_ => ((fun k_ => some k_ ≠ (.slice Ao35 t297.length co35 : Value).ownBlock)) k_ ∧ k_ ≠ go41) (Kd.R_apart' (HO310.out) (Kd.S_typed HO_14.out) (by decide)) (fun k_ hk => ⟨hk.1.1.2, fun e_ => (hk.2) (by rw [e_]; rfl)⟩))).1 k_ hk_.symm); have hx47_0 := hcc47 0 _ rfl; (try simp only [show (k39).sz = 6 from rfl, Nat.mul_one, Nat.add_zero] at hx47_0); have hf47_0 := hfr47 0; (try simp only [show (k39).sz = 6 from rfl, Nat.mul_one, Nat.add_zero] at hf47_0); have hx47_1 := hcc47 1 _ rfl; (try simp only [show (k39).sz = 6 from rfl, Nat.mul_one, Nat.add_zero] at hx47_1); have hf47_1 := hfr47 1; (try simp only [show (k39).sz = 6 from rfl, Nat.mul_one, Nat.add_zero] at hf47_1); have hx47_2 := hcc47 2 _ rfl; (try simp only [show (k39).sz = 6 from rfl, Nat.mul_one, Nat.add_zero] at hx47_2); have hf47_2 := hfr47 2; (try simp only [show (k39).sz = 6 from rfl, Nat.mul_one, Nat.add_zero] at hf47_2); have hx47_3 := hcc47 3 _ rfl; (try simp only [show (k39).sz = 6 from rfl, Nat.mul_one, Nat.add_zero] at hx47_3); have hf47_3 := hfr47 3; (try simp only [show (k39).sz = 6 from rfl, Nat.mul_one, Nat.add_zero] at hf47_3); have hx47_4 := hcc47 4 _ rfl; (try simp only [show (k39).sz = 6 from rfl, Nat.mul_one, Nat.add_zero] at hx47_4); have hf47_4 := hfr47 4; (try simp only [show (k39).sz = 6 from rfl, Nat.mul_one, Nat.add_zero] at hf47_4); have hx47_5 := hcc47 5 _ rfl; (try simp only [show (k39).sz = 6 from rfl, Nat.mul_one, Nat.add_zero] at hx47_5); have hf47_5 := hfr47 5; (try simp only [show (k39).sz = 6 from rfl, Nat.mul_one, Nat.add_zero] at hf47_5); clear hcl47 hcc47 hfr47 hM47 hoki47 hH47) | ((with_reducible refine gate_store (t := 39) (p := 70) rfl ?_); refine store_event (t := 39) (p := 70) (v := ?vo_w48) (w1 := ((((((w45.setCell ⟨go41, (x15_2 : Int).toNat * 6, none⟩ (.int .i64 a1)).setCell ⟨go41, (x15_2 : Int).toNat * 6 + 1, none⟩ (.int .i64 a2)).setCell ⟨go41, (x15_2 : Int).toNat * 6 + 2, none⟩ (.int .i64 a3)).setCell ⟨go41, (x15_2 : Int).toNat * 6 + 3, none⟩ (.int .i64 t306)).setCell ⟨go41, (x15_2 : Int).toNat * 6 + 4, none⟩ (.int .i64 t307)).setCell ⟨go41, (x15_2 : Int).toNat * 6 + 5, none⟩ (.slice Ao46 t308.length co46))) ?hg ?ho ?hn ?hr ?_; (case ho => rfl); (case hg => rfl); (case hn => rfl); (case hr => first | (go_simp; done) | (go_simp; rfl)); intro w48 hw; have hg : w45.grownBy w48 (some go41) := (by rw [hw]; exact HP47.2); have hp_ : Kd.S k39 39 w48 w.heap.size (fun k_ => some k_ ≠ (.slice Ao35 t297.length co35 : Value).ownBlock) (.slice (some ⟨go41, 0, none⟩) x14_2.length co42) y311 := (by rw [hw, Ny311.out]; exact HP47.1); clear HP47; replace HO_302002 := Aside0.mk (Kd.R_over' (v := (.slice (some ⟨go41, 0, none⟩) x14_2.length co42)) (by (with_reducible repeat (first | apply Kd.R_alloc | apply Kd.R_drewN | apply Kd.R_drew)); exact HO_302002.out) (Kd.S_typed HO_14.out) (by decide) hg); replace BK292 := Aside0.mk (blk_grown (g := gb292) (o := .cells #[.int .i64 a4_0, .int .i64 a4_1, .slice A4_2 l4_2.length c4_2] 26 (0, 0)) (by (with_reducible repeat (first | refine blk_drewN ?_ _ | refine blk_drew ?_ | refine blk_alloc ?_ _)); exact BK292.out) hg (Kd.S_ne HO_14.out BK292.out (by decide))); replace BK301 := Aside0.mk (blk_grown (g := gb301) (o := .cells #[.int .i64 t295, .int .i64 t296, .slice Ao35 t297.length co35] 26 (0, 0)) (by (with_reducible repeat (first | refine blk_drewN ?_ _ | refine blk_drew ?_ | refine blk_alloc ?_ _)); exact BK301.out) hg (Kd.S_ne HO_14.out BK301.out (by decide))); replace HO_14 := Aside0.mk (hp_); replace HL305_5 := Aside0.mk (Kd.R_after (v := (.slice (some ⟨go41, 0, none⟩) x14_2.length co42)) (v1 := (.slice (some ⟨go41, 0, none⟩) x14_2.length co42)) (ok := (fun k_ => some k_ ≠ (.slice Ao35 t297.length co35 : Value).ownBlock ∧ some k_ ≠ (.slice Ao46 t308.length co46 : Value).ownBlock)) (by (with_reducible repeat (first | apply Kd.R_alloc | apply Kd.R_drewN | apply Kd.R_drew)); exact Kd.R_mono HL305_5.out (fun _ hk => ⟨⟨hk.1.1, hk.2⟩, hk.1.2⟩)) hg (.inl rfl)); replace HB := Aside0.mk ((by rw [hw]; exact below_set (below_set (below_set (below_set (below_set (below_set (HB.out) GB41.out) GB41.out) GB41.out) GB41.out) GB41.out) GB41.out : Below w.heap.size w w48)); clear HO310; clear hg hw hp_))
                      go_roundg k2
                      case measure => have := HJ5.out; have := HK2.out; omega
                      case rel => exact ⟨(y311), (wrap64 (x15_2 + 1)), (by first | rfl | (simp; done) | (simp [*]; done)), H', ⟨by have := HJ5.out; have := HK2.out; omega⟩, ⟨by (with_reducible repeat (first | apply Kd.S_alloc | apply Kd.S_drewN | apply Kd.S_drew)); exact HO_14.out⟩, ⟨by (with_reducible repeat (first | apply Kd.R_alloc | apply Kd.R_drewN | apply Kd.R_drew)); exact Kd.R_mono HO_302002.out (fun _ hk => trivial)⟩, ⟨by (with_reducible repeat (first | refine blk_drewN ?_ _ | refine blk_drew ?_ | refine blk_alloc ?_ _)); exact BK292.out⟩, ⟨by (with_reducible repeat (first | refine blk_drewN ?_ _ | refine blk_drew ?_ | refine blk_alloc ?_ _)); exact BK301.out⟩, ⟨by repeat (first | (with_reducible first | exact HB.out | apply below_alloc | apply pw_below_drewN | apply below_drew1 | refine below_set ?_ GE292.out | refine below_set ?_ GE301.out) | exact HB.out)⟩⟩
                    · rw [if_neg c39] at H
                      have c39b0 : (((rd_T39 x14_2 x15_2).f0) == a1) = false := beq_eq_false_iff_ne.mpr c39
                      have c39b1 : (((rd_T39 x14_2 x15_2).f0) != a1) = true := bne_iff_ne.mpr c39
                      have H' := Aside0.mk H
                      clear H
                      obtain ⟨Ao49, co49, eo49⟩ := Kd.S_slice HO_14.out
                      subst eo49
                      have p305 : 0 ≤ (x15_2 : Int) := of_decide_eq_true (by first | (with_reducible assumption) | assumption)
                      have q305 : x15_2 < (x14_2.length : Int) := of_decide_eq_true (by first | (with_reducible assumption) | assumption)
                      obtain ⟨ad305, A305_5, c305_5, e305, hx305_0, hx305_1, hx305_2, hx305_3, hx305_4, hx305_5, hl305_5, hi305_5⟩ := at_T39 (Kd.S_reads' HO_14.out).2.2 x15_2 p305 q305
                      cases e305
                      obtain ⟨ce305, hce305, hMe305, hcc305⟩ := Kd.S_get HO_14.out z39 x15_2 p305 (by first | exact q305 | exact of_decide_eq_true (by first | (with_reducible assumption) | assumption) | (have e_ := (Kd.S_reads' HO_14.out).1; omega))
                      obtain ⟨ve305_5, rfl, ge305_5⟩ := k39_openM hMe305
                      have hv305_5 := hcc305 5 _ rfl
                      rw [add_field _ _ 5 (by omega)] at hv305_5
                      replace hv305_5 := Option.some.inj (hv305_5.symm.trans hx305_5)
                      rw [hv305_5] at ge305_5
                      have HL305_5 := Aside0.mk (show Kd.R Kd.string 9 _ _ _ _ ((rd_T39 x14_2 x15_2).f3.f2) from ge305_5)
                      clear hv305_5 ge305_5
                      clear hcc305 hce305
                      have HR305_5 := Aside0.mk hi305_5
                      have HC305_5 := Aside0.mk hl305_5
                      clear hi305_5 hl305_5
                      replace p305 := eq_true p305
                      replace q305 := eq_true q305
                      go_wp2
                      go_roundg k2
                      case measure => have := HJ5.out; have := HK2.out; omega
                      case rel => exact ⟨(x14_2), (wrap64 (x15_2 + 1)), (by first | rfl | (simp; done) | (simp [*]; done)), H', ⟨by have := HJ5.out; have := HK2.out; omega⟩, ⟨by (with_reducible repeat (first | apply Kd.S_alloc | apply Kd.S_drewN | apply Kd.S_drew)); exact HO_14.out⟩, ⟨by (with_reducible repeat (first | apply Kd.R_alloc | apply Kd.R_drewN | apply Kd.R_drew)); exact HO_302002.out⟩, ⟨by (with_reducible repeat (first | refine blk_drewN ?_ _ | refine blk_drew ?_ | refine blk_alloc ?_ _)); exact BK292.out⟩, ⟨by (with_reducible repeat (first | refine blk_drewN ?_ _ | refine blk_drew ?_ | refine blk_alloc ?_ _)); exact BK301.out⟩, ⟨by repeat (first | (with_reducible first | exact HB.out | apply below_alloc | apply pw_below_drewN | apply below_drew1 | refine below_set ?_ GE292.out | refine below_set ?_ GE301.out) | exact HB.out)⟩⟩
                  · rw [if_neg c38] at H
                    exact absurd H (by simp)
                · rw [if_neg c37] at H
                  have c37b0 : decide (x15_2 < (x14_2.length : Int)) = false := decide_eq_false c37
                  clear c37
                  simp only [Option.some.injEq, Prod.mk.injEq] at H
                  obtain ⟨rfl, rfl⟩ := H
                  obtain ⟨Ao50, co50, eo50⟩ := Kd.S_slice HO_14.out
                  subst eo50
                  go_wp2
                  go_ret2
                  exact ⟨_, by first | rfl | (simp [errW_none, errW_some] <;> rfl) | (simp [*, errW_none, errW_some] <;> rfl), by (with_reducible repeat (first | apply Kd.S_alloc | apply Kd.S_drewN | apply Kd.S_drew)); exact Kd.S_mono HO_14.out (fun _ hk => trivial), by repeat (first | (with_reducible first | exact HB.out | apply below_alloc | apply pw_below_drewN | apply below_drew1 | refine below_set ?_ GE292.out | refine below_set ?_ GE301.out) | exact HB.out)⟩
          · rw [if_neg c29] at H
            have c29b0 : (t300 == 0) = false := beq_eq_false_iff_ne.mpr c29
            have c29b1 : (t300 != 0) = true := bne_iff_ne.mpr c29
            simp only [Option.some.injEq, Prod.mk.injEq] at H
            obtain ⟨rfl, rfl⟩ := H
            go_wp2_with (first | ((with_reducible refine gate_callee (f := 20) rfl ?_); refine goesL_ (some 40) rfl rfl Try.func20 (by kernel_rfl) rfl #[.slice A0 l0.length c0, .int .i64 a1, .int .i64 a2] rfl (by (try simp only [List.map_toArray, List.map_cons, List.map_nil]); first | done | rfl | (simp only [List.length_drop, List.length_take]; rfl)) ?_; (with_reducible refine (watchmanref18_Check.calls kj5 _ _ l0 a1 a2 t295 t296 t297 t300 _ ?side1 ?side2 A22.out).mono ?_); (case side1 => repeat (first | exact (Kd.C_below HR0.out HB.out) | (with_reducible refine Kd.C_alloc ?_ _) | (with_reducible refine Kd.C_drewN ?_ _) | (with_reducible refine Kd.C_drew ?_))); (case side2 => exact HC0.out); rintro e w51 ⟨v298, rfl, ho0, hb⟩; refine ⟨_, rfl, ?_⟩; have HO299 := Aside0.mk (Kd.R_lower ho0 (below_size (by repeat (first | (with_reducible first | exact HB.out | apply below_alloc | apply pw_below_drewN | apply below_drew1 | refine below_set ?_ GE292.out) | exact HB.out)))); replace BK292 := Aside0.mk (blk_below (g := gb292) (o := .cells #[.int .i64 a4_0, .int .i64 a4_1, .slice A4_2 l4_2.length c4_2] 26 (0, 0)) (by (with_reducible repeat (first | refine blk_drewN ?_ _ | refine blk_drew ?_ | refine blk_alloc ?_ _)); exact BK292.out) hb); replace HB := Aside0.mk (below_step (by repeat (first | (with_reducible first | exact HB.out | apply below_alloc | apply pw_below_drewN | apply below_drew1 | refine below_set ?_ GE292.out) | exact HB.out)) hb); (try clear hb); (try clear hb2); (try clear hk); (try clear hi); (try clear ho0)) | ((with_reducible refine gate_dst (N := 12) rfl ?_); refine box_event ?hg (N := 12) ?hd (cs := #[.int .i64 0, .int .i64 0, .slice none 0 0]) (t := 26) ?hr ?_; (case hd => rfl); (case hg => rfl); (case hr => first | (go_simp; done) | (go_simp; rfl)); intro gb301 hg w52 hbox hb; replace HO299 := Aside0.mk (Kd.R_below (by (with_reducible repeat (first | apply Kd.R_alloc | apply Kd.R_drewN | apply Kd.R_drew)); exact HO299.out) hb); have BK301 := Aside0.mk (hbox); have GW301 := Aside0.mk ((by rw [hg]; exact (below_size (by repeat (first | (with_reducible first | exact HB.out | apply below_alloc | apply pw_below_drewN | apply below_drew1 | refine below_set ?_ GE292.out) | exact HB.out))) : w.heap.size ≤ gb301)); have GE301 := Aside0.mk ((by rw [hg]; exact (below_size (by repeat (first | (with_reducible first | exact HB.out | apply below_alloc | apply pw_below_drewN | apply below_drew1 | refine below_set ?_ GE292.out) | exact HB.out))) : w.heap.size ≤ gb301)); replace HB := Aside0.mk (below_step (by repeat (first | (with_reducible first | exact HB.out | apply below_alloc | apply pw_below_drewN | apply below_drew1 | refine below_set ?_ GE292.out) | exact HB.out)) hb); have NB292_301 := Aside0.mk ((by rw [hg]; exact Nat.ne_of_lt (blk_lt (g := gb292) (o := .cells #[.int .i64 a4_0, .int .i64 a4_1, .slice A4_2 l4_2.length c4_2] 26 (0, 0)) (by (with_reducible repeat (first | refine blk_drewN ?_ _ | refine blk_drew ?_ | refine blk_alloc ?_ _)); exact BK292.out)) : gb292 ≠ gb301)); have NB301_292 := Aside0.mk ((by rw [hg]; exact Nat.ne_of_gt (blk_lt (g := gb292) (o := .cells #[.int .i64 a4_0, .int .i64 a4_1, .slice A4_2 l4_2.length c4_2] 26 (0, 0)) (by (with_reducible repeat (first | refine blk_drewN ?_ _ | refine blk_drew ?_ | refine blk_alloc ?_ _)); exact BK292.out)) : gb301 ≠ gb292)); replace BK292 := Aside0.mk (blk_below (g := gb292) (o := .cells #[.int .i64 a4_0, .int .i64 a4_1, .slice A4_2 l4_2.length c4_2] 26 (0, 0)) (by (with_reducible repeat (first | refine blk_drewN ?_ _ | refine blk_drew ?_ | refine blk_alloc ?_ _)); exact BK292.out) hb); clear hb hbox hg; have hnb53 := NB301_292.out; have hnc53 := NB292_301.out; have hcz54_0 : w52.cell? ⟨gb301, 0, none⟩ = some (.int .i64 0) := (blk_cell BK301.out 0).trans rfl; have hcz54_1 : w52.cell? ⟨gb301, 1, none⟩ = some (.int .i64 0) := (blk_cell BK301.out 1).trans rfl; have hcz54_2 : w52.cell? ⟨gb301, 2, none⟩ = some (.slice none 0 0) := (blk_cell BK301.out 2).trans rfl; have hfz54_0 := blk_frozen BK301.out 0; have hfz54_1 := blk_frozen BK301.out 1; have hfz54_2 := blk_frozen BK301.out 2; obtain ⟨Ao55, co55, eo55⟩ := Kd.R_slice HO299.out; subst eo55))
            go_ret2
            exact ⟨_, by first | rfl | (simp [errW_none, errW_some] <;> rfl) | (simp [*, errW_none, errW_some] <;> rfl), by first | exact Kd.S_nil _ _ _ _ _ | exact Kd.N_nil _ _ _ _ _ | exact Kd.V_nil _ _ _ _ _ | exact Kd.Q_nil _ _ _ _ _ | exact Kd.R_nil _ _ _ _ _, by repeat (first | (with_reducible first | exact HB.out | apply below_alloc | apply pw_below_drewN | apply below_drew1 | refine below_set ?_ GE292.out | refine below_set ?_ GE301.out) | exact HB.out)⟩

end Go.Proofs.Ytkhdpmbjjcmooaa.F
