-- Written by a program of this session (xprint.py), out of the translation and of contracts proved by hand.
import Derived.Test.YtkhdpmbjjcmooaaF0
import Derived.Test.YtkhdpmbjjcmooaaF2
import Derived.Test.YtkhdpmbjjcmooaaF9
import Derived.Test.YtkhdpmbjjcmooaaF11
namespace Go.Proofs.Ytkhdpmbjjcmooaa.F
open Go.RowKit Go.Proofs.YtkhdpmbjjcmooaaV.PrintWords Go.Proofs.YtkhdpmbjjcmooaaV.PrintLast Go.Proofs.YtkhdpmbjjcmooaaV.PrintMore
attribute [local go_sem] max2_int min2_int max_two min_two max_three min_three max_four min_four   -- for this text's walks alone
set_option linter.unusedVariables false
set_option linter.unusedSimpArgs false

/-! ### watchmanref18_Open: function 19 -/
mutual
def watchmanref18_Open.j0 : Nat → List (S39) → Int → Int → Bool → Option ((List (S39)) × Int × Int)
  | 0, _, _, _, _ => none
  | k + 1, x0, x1, x2, x48 => if x48 = true then (some (([] : List (S39)), 0, 1)) else ((watchmanref18_Own.f k x0).bind fun t228 => (watchmanref18_Open.l0 k x1 x2 t228))
def watchmanref18_Open.l0 : Nat → Int → Int → List (S39) → Option ((List (S39)) × Int × Int)
  | 0, _, _, _ => none
  | k + 1, x1, x2, x9 => if (x9.length : Int) ≥ x1 then ((watchmanref18_Oldest.f k x9).bind fun bt234 => (watchmanref18_Open.l1 k x1 x2 x9 bt234.1 ([] : List (S39)) 0)) else (if x9.length < 2199023255552 then (some ((x9 ++ [(⟨x2, 0, x2, (⟨0, 0, ([] : List ByteArray)⟩ : S26)⟩ : S39)]), x2, 0)) else (none))
def watchmanref18_Open.l1 : Nat → Int → Int → List (S39) → Int → List (S39) → Int → Option ((List (S39)) × Int × Int)
  | 0, _, _, _, _, _, _ => none
  | k + 1, x1, x2, x9, x10, x12, x13 => if x13 < (x9.length : Int) then (if 0 ≤ x13 then (if ((rd_T39 x9 x13).f0) = x10 then (watchmanref18_Open.l1 k x1 x2 x9 x10 x12 (wrap64 (x13 + 1))) else (if x12.length < 2199023255552 then (watchmanref18_Open.l1 k x1 x2 x9 x10 (x12 ++ [(⟨(rd_T39 x9 x13).f0, (rd_T39 x9 x13).f1, (rd_T39 x9 x13).f2, (⟨(rd_T39 x9 x13).f3.f0, (rd_T39 x9 x13).f3.f1, (rd_T39 x9 x13).f3.f2⟩ : S26)⟩ : S39)]) (wrap64 (x13 + 1))) else (none))) else (none)) else (watchmanref18_Open.l0 k x1 x2 x12)
end
def watchmanref18_Open.f (k : Nat) (l0 : List (S39)) (a1 : Int) (a2 : Int) : Option ((List (S39)) × Int × Int) := (watchmanref18_Is.f k l0).bind fun t226 => (if t226 = true then (if a1 < 1 then (watchmanref18_Open.j0 k l0 a1 a2 true) else (if a1 > 30 then (watchmanref18_Open.j0 k l0 a1 a2 true) else (if a2 < 1 then (watchmanref18_Open.j0 k l0 a1 a2 true) else (if a2 > 1000000000 then (watchmanref18_Open.j0 k l0 a1 a2 true) else (if (l0.length : Int) > 0 then (if 0 ≤ (wrap64 ((l0.length : Int) - 1)) then (if (wrap64 ((l0.length : Int) - 1)) < (l0.length : Int) then (watchmanref18_Open.j0 k l0 a1 a2 (decide (((rd_T39 l0 (wrap64 ((l0.length : Int) - 1))).f0) ≥ a2))) else (none)) else (none)) else (watchmanref18_Open.j0 k l0 a1 a2 false)))))) else (watchmanref18_Open.j0 k l0 a1 a2 true))
theorem watchmanref18_Open.mono_l : ∀ k, (∀ y0 y1 y2 y3, LeO (watchmanref18_Open.j0 k y0 y1 y2 y3) (watchmanref18_Open.j0 (k + 1) y0 y1 y2 y3)) ∧ (∀ y0 y1 y2, LeO (watchmanref18_Open.l0 k y0 y1 y2) (watchmanref18_Open.l0 (k + 1) y0 y1 y2)) ∧ (∀ y0 y1 y2 y3 y4 y5, LeO (watchmanref18_Open.l1 k y0 y1 y2 y3 y4 y5) (watchmanref18_Open.l1 (k + 1) y0 y1 y2 y3 y4 y5))
  | 0 => ⟨fun _ _ _ _ r h => by simp [watchmanref18_Open.j0] at h, fun _ _ _ r h => by simp [watchmanref18_Open.l0] at h, fun _ _ _ _ _ _ r h => by simp [watchmanref18_Open.l1] at h⟩
  | k + 1 => by
    obtain ⟨ih0, ih1, ih2⟩ := watchmanref18_Open.mono_l k
    refine ⟨?_, ?_, ?_⟩
    · intro y0 y1 y2 y3
      unfold watchmanref18_Open.j0
      repeat' first
      | (with_reducible exact ih0 _ _ _ _)
      | (with_reducible exact ih1 _ _ _)
      | (with_reducible exact ih2 _ _ _ _ _ _)
      | (with_reducible exact watchmanref18_Is.mono _ _)
      | (with_reducible exact watchmanref18_Oldest.mono _ _)
      | (with_reducible exact watchmanref18_Own.mono _ _)
      | (with_reducible exact LeO.refl _)
      | (with_reducible exact LeO.none _)
      | (with_reducible refine LeO.ite ?_ ?_)
      | (with_reducible refine LeO.bind ?_ (fun _ => ?_))
      | exact ih0 _ _ _ _
      | exact ih1 _ _ _
      | exact ih2 _ _ _ _ _ _
      | exact watchmanref18_Is.mono _ _
      | exact watchmanref18_Oldest.mono _ _
      | exact watchmanref18_Own.mono _ _
      | exact LeO.none _
      | refine LeO.ite ?_ ?_
      | refine LeO.bind ?_ (fun _ => ?_)
    · intro y0 y1 y2
      unfold watchmanref18_Open.l0
      repeat' first
      | (with_reducible exact ih0 _ _ _ _)
      | (with_reducible exact ih1 _ _ _)
      | (with_reducible exact ih2 _ _ _ _ _ _)
      | (with_reducible exact watchmanref18_Is.mono _ _)
      | (with_reducible exact watchmanref18_Oldest.mono _ _)
      | (with_reducible exact watchmanref18_Own.mono _ _)
      | (with_reducible exact LeO.refl _)
      | (with_reducible exact LeO.none _)
      | (with_reducible refine LeO.ite ?_ ?_)
      | (with_reducible refine LeO.bind ?_ (fun _ => ?_))
      | exact ih0 _ _ _ _
      | exact ih1 _ _ _
      | exact ih2 _ _ _ _ _ _
      | exact watchmanref18_Is.mono _ _
      | exact watchmanref18_Oldest.mono _ _
      | exact watchmanref18_Own.mono _ _
      | exact LeO.none _
      | refine LeO.ite ?_ ?_
      | refine LeO.bind ?_ (fun _ => ?_)
    · intro y0 y1 y2 y3 y4 y5
      unfold watchmanref18_Open.l1
      repeat' first
      | (with_reducible exact ih0 _ _ _ _)
      | (with_reducible exact ih1 _ _ _)
      | (with_reducible exact ih2 _ _ _ _ _ _)
      | (with_reducible exact watchmanref18_Is.mono _ _)
      | (with_reducible exact watchmanref18_Oldest.mono _ _)
      | (with_reducible exact watchmanref18_Own.mono _ _)
      | (with_reducible exact LeO.refl _)
      | (with_reducible exact LeO.none _)
      | (with_reducible refine LeO.ite ?_ ?_)
      | (with_reducible refine LeO.bind ?_ (fun _ => ?_))
      | exact ih0 _ _ _ _
      | exact ih1 _ _ _
      | exact ih2 _ _ _ _ _ _
      | exact watchmanref18_Is.mono _ _
      | exact watchmanref18_Oldest.mono _ _
      | exact watchmanref18_Own.mono _ _
      | exact LeO.none _
      | refine LeO.ite ?_ ?_
      | refine LeO.bind ?_ (fun _ => ?_)
theorem watchmanref18_Open.mono : ∀ a0 a1 a2 k, LeO (watchmanref18_Open.f k a0 a1 a2) (watchmanref18_Open.f (k + 1) a0 a1 a2) := by
  intro a0 a1 a2 k
  obtain ⟨ih0, ih1, ih2⟩ := watchmanref18_Open.mono_l k
  unfold watchmanref18_Open.f
  repeat' first
      | (with_reducible exact ih0 _ _ _ _)
      | (with_reducible exact ih1 _ _ _)
      | (with_reducible exact ih2 _ _ _ _ _ _)
      | (with_reducible exact watchmanref18_Is.mono _ _)
      | (with_reducible exact watchmanref18_Oldest.mono _ _)
      | (with_reducible exact watchmanref18_Own.mono _ _)
      | (with_reducible exact LeO.refl _)
      | (with_reducible exact LeO.none _)
      | (with_reducible refine LeO.ite ?_ ?_)
      | (with_reducible refine LeO.bind ?_ (fun _ => ?_))
      | exact ih0 _ _ _ _
      | exact ih1 _ _ _
      | exact ih2 _ _ _ _ _ _
      | exact watchmanref18_Is.mono _ _
      | exact watchmanref18_Oldest.mono _ _
      | exact watchmanref18_Own.mono _ _
      | exact LeO.none _
      | refine LeO.ite ?_ ?_
      | refine LeO.bind ?_ (fun _ => ?_)
set_option maxHeartbeats 8000000 in
set_option maxRecDepth 100000 in
theorem watchmanref18_Open.calls (k : Nat) (A0 : Option Addr) (c0 : Nat) (l0 : List (S39)) (a1 : Int) (a2 : Int) (r1 : List (S39)) (r2 : Int) (r3 : Int) (w : World) (hr0 : Kd.C k39 w A0 l0.length l0) (hc0 : l0.length ≤ c0) (h : watchmanref18_Open.f k l0 a1 a2 = some (r1, r2, r3)) :
    Calls Try.prog 19 #[.slice A0 l0.length c0, .int .i64 a1, .int .i64 a2] w fun e w' => ∃ v0_ : Value, e = .returned (.tuple #[v0_, .int .i64 r2, .int .i64 r3]) ∧ Kd.N k39 39 w' w.heap.size (fun k_ => (w.heap.size ≤ k_)) v0_ r1 ∧ Below w.heap.size w w' := by
  have hu39 := Try.underlying39
  have HR0 := Aside0.mk hr0
  have HC0 := Aside0.mk hc0
  clear hr0 hc0
  have HB := Aside0.mk (Below.refl w.heap.size w)
  have H : ((watchmanref18_Is.f k l0).bind fun t226 => (if t226 = true then (if a1 < 1 then (watchmanref18_Open.j0 k l0 a1 a2 true) else (if a1 > 30 then (watchmanref18_Open.j0 k l0 a1 a2 true) else (if a2 < 1 then (watchmanref18_Open.j0 k l0 a1 a2 true) else (if a2 > 1000000000 then (watchmanref18_Open.j0 k l0 a1 a2 true) else (if (l0.length : Int) > 0 then (if 0 ≤ (wrap64 ((l0.length : Int) - 1)) then (if (wrap64 ((l0.length : Int) - 1)) < (l0.length : Int) then (watchmanref18_Open.j0 k l0 a1 a2 (decide (((rd_T39 l0 (wrap64 ((l0.length : Int) - 1))).f0) ≥ a2))) else (none)) else (none)) else (watchmanref18_Open.j0 k l0 a1 a2 false)))))) else (watchmanref18_Open.j0 k l0 a1 a2 true))) = some (r1, r2, r3) := h
  clear h
  have HC4 := Aside0.mk H
  clear H
  go_enter Try.func19, Try.ntmps19
  go_upto_region 1 with (fail)
  go_cut [48] (fun v48 wc => ∃ (kq : Nat) (x48_3 : Bool), v48 = .bool x48_3 ∧ Aside0 (watchmanref18_Open.j0 kq l0 a1 a2 x48_3 = some (r1, r2, r3)) ∧ Aside0 (kq ≤ k) ∧ Aside0 (Below w.heap.size w wc))
  case first =>
    have H := HC4.out
    clear HC4
    replace H := Option.bind_eq_some_iff.mp H
    obtain ⟨t226, A50, H⟩ := H
    replace H : (if t226 = true then (if a1 < 1 then (watchmanref18_Open.j0 k l0 a1 a2 true) else (if a1 > 30 then (watchmanref18_Open.j0 k l0 a1 a2 true) else (if a2 < 1 then (watchmanref18_Open.j0 k l0 a1 a2 true) else (if a2 > 1000000000 then (watchmanref18_Open.j0 k l0 a1 a2 true) else (if (l0.length : Int) > 0 then (if 0 ≤ (wrap64 ((l0.length : Int) - 1)) then (if (wrap64 ((l0.length : Int) - 1)) < (l0.length : Int) then (watchmanref18_Open.j0 k l0 a1 a2 (decide (((rd_T39 l0 (wrap64 ((l0.length : Int) - 1))).f0) ≥ a2))) else (none)) else (none)) else (watchmanref18_Open.j0 k l0 a1 a2 false)))))) else (watchmanref18_Open.j0 k l0 a1 a2 true)) = some (r1, r2, r3) := H
    have A5 := Aside0.mk A50
    clear A50
    by_cases c6 : t226 = true
    · subst c6
      have H1 : (if a1 < 1 then (watchmanref18_Open.j0 k l0 a1 a2 true) else (if a1 > 30 then (watchmanref18_Open.j0 k l0 a1 a2 true) else (if a2 < 1 then (watchmanref18_Open.j0 k l0 a1 a2 true) else (if a2 > 1000000000 then (watchmanref18_Open.j0 k l0 a1 a2 true) else (if (l0.length : Int) > 0 then (if 0 ≤ (wrap64 ((l0.length : Int) - 1)) then (if (wrap64 ((l0.length : Int) - 1)) < (l0.length : Int) then (watchmanref18_Open.j0 k l0 a1 a2 (decide (((rd_T39 l0 (wrap64 ((l0.length : Int) - 1))).f0) ≥ a2))) else (none)) else (none)) else (watchmanref18_Open.j0 k l0 a1 a2 false)))))) = some (r1, r2, r3) := by rw [if_pos rfl] at H; exact H
      clear H
      have H := H1
      clear H1
      by_cases c7 : a1 < 1
      · rw [if_pos c7] at H
        have c7b0 : decide (a1 < 1) = true := decide_eq_true c7
        clear c7
        (first | rw [c7b0] | (simp only [i64_w, i32_w]; rw [c7b0]) | skip)
        have H' := Aside0.mk H
        clear H
        go_wp2_with (first | ((with_reducible refine gate_callee (f := 27) rfl ?_); refine goesL_ (some 15) rfl rfl Try.func27 (by kernel_rfl) rfl #[.slice A0 l0.length c0] rfl (by (try simp only [List.map_toArray, List.map_cons, List.map_nil]); first | done | rfl | (simp only [List.length_drop, List.length_take]; rfl)) ?_; (with_reducible refine (watchmanref18_Is.calls k _ _ l0 true _ ?side1 ?side2 A5.out).mono ?_); (case side1 => repeat (first | exact (Kd.C_below HR0.out HB.out) | (with_reducible refine Kd.C_alloc ?_ _) | (with_reducible refine Kd.C_drewN ?_ _) | (with_reducible refine Kd.C_drew ?_))); (case side2 => exact HC0.out); rintro e w8 ⟨rfl, hb⟩; refine ⟨_, rfl, ?_⟩; replace HB := Aside0.mk (below_step (by repeat (first | (with_reducible first | exact HB.out | apply below_alloc | apply pw_below_drewN | apply below_drew1) | exact HB.out)) hb); (try clear hb); (try clear hb2); (try clear hk); (try clear hi)))
        go_meet
        case rel => exact ⟨_, (true), (by first | rfl | (simp; done) | (simp [*]; done)), H', ⟨by first | omega | exact Nat.le_refl _⟩, ⟨by repeat (first | (with_reducible first | exact HB.out | apply below_alloc | apply pw_below_drewN | apply below_drew1) | exact HB.out)⟩⟩
      · rw [if_neg c7] at H
        have c7b0 : decide (a1 < 1) = false := decide_eq_false c7
        clear c7
        (first | rw [c7b0] | (simp only [i64_w, i32_w]; rw [c7b0]) | skip)
        by_cases c9 : a1 > 30
        · rw [if_pos c9] at H
          have c9b0 : decide (30 < a1) = true := decide_eq_true c9
          clear c9
          have H' := Aside0.mk H
          clear H
          go_wp2_with (first | ((with_reducible refine gate_callee (f := 27) rfl ?_); refine goesL_ (some 15) rfl rfl Try.func27 (by kernel_rfl) rfl #[.slice A0 l0.length c0] rfl (by (try simp only [List.map_toArray, List.map_cons, List.map_nil]); first | done | rfl | (simp only [List.length_drop, List.length_take]; rfl)) ?_; (with_reducible refine (watchmanref18_Is.calls k _ _ l0 true _ ?side1 ?side2 A5.out).mono ?_); (case side1 => repeat (first | exact (Kd.C_below HR0.out HB.out) | (with_reducible refine Kd.C_alloc ?_ _) | (with_reducible refine Kd.C_drewN ?_ _) | (with_reducible refine Kd.C_drew ?_))); (case side2 => exact HC0.out); rintro e w10 ⟨rfl, hb⟩; refine ⟨_, rfl, ?_⟩; replace HB := Aside0.mk (below_step (by repeat (first | (with_reducible first | exact HB.out | apply below_alloc | apply pw_below_drewN | apply below_drew1) | exact HB.out)) hb); (try clear hb); (try clear hb2); (try clear hk); (try clear hi)))
          go_meet
          case rel => exact ⟨_, (true), (by first | rfl | (simp; done) | (simp [*]; done)), H', ⟨by first | omega | exact Nat.le_refl _⟩, ⟨by repeat (first | (with_reducible first | exact HB.out | apply below_alloc | apply pw_below_drewN | apply below_drew1) | exact HB.out)⟩⟩
        · rw [if_neg c9] at H
          have c9b0 : decide (30 < a1) = false := decide_eq_false c9
          clear c9
          by_cases c11 : a2 < 1
          · rw [if_pos c11] at H
            have c11b0 : decide (a2 < 1) = true := decide_eq_true c11
            clear c11
            have H' := Aside0.mk H
            clear H
            go_wp2_with (first | ((with_reducible refine gate_callee (f := 27) rfl ?_); refine goesL_ (some 15) rfl rfl Try.func27 (by kernel_rfl) rfl #[.slice A0 l0.length c0] rfl (by (try simp only [List.map_toArray, List.map_cons, List.map_nil]); first | done | rfl | (simp only [List.length_drop, List.length_take]; rfl)) ?_; (with_reducible refine (watchmanref18_Is.calls k _ _ l0 true _ ?side1 ?side2 A5.out).mono ?_); (case side1 => repeat (first | exact (Kd.C_below HR0.out HB.out) | (with_reducible refine Kd.C_alloc ?_ _) | (with_reducible refine Kd.C_drewN ?_ _) | (with_reducible refine Kd.C_drew ?_))); (case side2 => exact HC0.out); rintro e w12 ⟨rfl, hb⟩; refine ⟨_, rfl, ?_⟩; replace HB := Aside0.mk (below_step (by repeat (first | (with_reducible first | exact HB.out | apply below_alloc | apply pw_below_drewN | apply below_drew1) | exact HB.out)) hb); (try clear hb); (try clear hb2); (try clear hk); (try clear hi)))
            go_meet
            case rel => exact ⟨_, (true), (by first | rfl | (simp; done) | (simp [*]; done)), H', ⟨by first | omega | exact Nat.le_refl _⟩, ⟨by repeat (first | (with_reducible first | exact HB.out | apply below_alloc | apply pw_below_drewN | apply below_drew1) | exact HB.out)⟩⟩
          · rw [if_neg c11] at H
            have c11b0 : decide (a2 < 1) = false := decide_eq_false c11
            clear c11
            by_cases c13 : a2 > 1000000000
            · rw [if_pos c13] at H
              have c13b0 : decide (1000000000 < a2) = true := decide_eq_true c13
              clear c13
              have H' := Aside0.mk H
              clear H
              go_wp2_with (first | ((with_reducible refine gate_callee (f := 27) rfl ?_); refine goesL_ (some 15) rfl rfl Try.func27 (by kernel_rfl) rfl #[.slice A0 l0.length c0] rfl (by (try simp only [List.map_toArray, List.map_cons, List.map_nil]); first | done | rfl | (simp only [List.length_drop, List.length_take]; rfl)) ?_; (with_reducible refine (watchmanref18_Is.calls k _ _ l0 true _ ?side1 ?side2 A5.out).mono ?_); (case side1 => repeat (first | exact (Kd.C_below HR0.out HB.out) | (with_reducible refine Kd.C_alloc ?_ _) | (with_reducible refine Kd.C_drewN ?_ _) | (with_reducible refine Kd.C_drew ?_))); (case side2 => exact HC0.out); rintro e w14 ⟨rfl, hb⟩; refine ⟨_, rfl, ?_⟩; replace HB := Aside0.mk (below_step (by repeat (first | (with_reducible first | exact HB.out | apply below_alloc | apply pw_below_drewN | apply below_drew1) | exact HB.out)) hb); (try clear hb); (try clear hb2); (try clear hk); (try clear hi)))
              go_meet
              case rel => exact ⟨_, (true), (by first | rfl | (simp; done) | (simp [*]; done)), H', ⟨by first | omega | exact Nat.le_refl _⟩, ⟨by repeat (first | (with_reducible first | exact HB.out | apply below_alloc | apply pw_below_drewN | apply below_drew1) | exact HB.out)⟩⟩
            · rw [if_neg c13] at H
              have c13b0 : decide (1000000000 < a2) = false := decide_eq_false c13
              clear c13
              by_cases c15 : (l0.length : Int) > 0
              · rw [if_pos c15] at H
                have c15b0 : decide (0 < (l0.length : Int)) = true := decide_eq_true c15
                have c15b1 : decide (0 < l0.length) = true := decide_eq_true (by omega)
                clear c15
                obtain ⟨ji16, hji16⟩ : ∃ j_ : Int, (wrap64 ((l0.length : Int) - 1)) = j_ := ⟨_, rfl⟩
                replace H : (if 0 ≤ (ji16) then (if (ji16) < (l0.length : Int) then (watchmanref18_Open.j0 k l0 a1 a2 (decide (((rd_T39 l0 (ji16)).f0) ≥ a2))) else (none)) else (none)) = some (r1, r2, r3) := by first | (rw [hji16] at H; exact H) | (simp only [hji16] at H ⊢; exact H)
                (try rw [hji16] at A5)
                have hji16w : (IntKind.i64.wrap ((l0.length : Int) - 1)) = ji16 := (i64_w _).trans hji16
                by_cases c17 : 0 ≤ (ji16)
                · rw [if_pos c17] at H
                  have c17b0 : decide (0 ≤ (ji16)) = true := decide_eq_true c17
                  clear c17
                  by_cases c18 : (ji16) < (l0.length : Int)
                  · rw [if_pos c18] at H
                    have c18b0 : decide ((ji16) < (l0.length : Int)) = true := decide_eq_true c18
                    clear c18
                    have H' := Aside0.mk H
                    clear H
                    go_wp2_with (first | ((with_reducible refine gate_callee (f := 27) rfl ?_); refine goesL_ (some 15) rfl rfl Try.func27 (by kernel_rfl) rfl #[.slice A0 l0.length c0] rfl (by (try simp only [List.map_toArray, List.map_cons, List.map_nil]); first | done | rfl | (simp only [List.length_drop, List.length_take]; rfl)) ?_; (with_reducible refine (watchmanref18_Is.calls k _ _ l0 true _ ?side1 ?side2 A5.out).mono ?_); (case side1 => repeat (first | exact (Kd.C_below HR0.out HB.out) | (with_reducible refine Kd.C_alloc ?_ _) | (with_reducible refine Kd.C_drewN ?_ _) | (with_reducible refine Kd.C_drew ?_))); (case side2 => exact HC0.out); rintro e w19 ⟨rfl, hb⟩; refine ⟨_, rfl, ?_⟩; replace HB := Aside0.mk (below_step (by repeat (first | (with_reducible first | exact HB.out | apply below_alloc | apply pw_below_drewN | apply below_drew1) | exact HB.out)) hb); (try clear hb); (try clear hb2); (try clear hk); (try clear hi); have p227 : 0 ≤ ((ji16) : Int) := of_decide_eq_true (by first | (with_reducible assumption) | assumption); have q227 : (ji16) < (l0.length : Int) := of_decide_eq_true (by first | (with_reducible assumption) | assumption); obtain ⟨ad227, A227_5, c227_5, e227, hx227_0, hx227_1, hx227_2, hx227_3, hx227_4, hx227_5, hl227_5, hi227_5⟩ := at_T39 HR0.out (ji16) p227 q227; cases e227; replace hx227_0 := (HB.out.cell (World.block_lt_of_cell? w _ hx227_0)).trans hx227_0; replace hx227_1 := (HB.out.cell (World.block_lt_of_cell? w _ hx227_1)).trans hx227_1; replace hx227_2 := (HB.out.cell (World.block_lt_of_cell? w _ hx227_2)).trans hx227_2; replace hx227_3 := (HB.out.cell (World.block_lt_of_cell? w _ hx227_3)).trans hx227_3; replace hx227_4 := (HB.out.cell (World.block_lt_of_cell? w _ hx227_4)).trans hx227_4; replace hx227_5 := (HB.out.cell (World.block_lt_of_cell? w _ hx227_5)).trans hx227_5; have HR227_5 := Aside0.mk hi227_5; have HC227_5 := Aside0.mk hl227_5; clear hi227_5 hl227_5; replace p227 := eq_true p227; replace q227 := eq_true q227))
                    go_meet
                    case rel => exact ⟨_, (decide (((rd_T39 l0 (ji16)).f0) ≥ a2)), (by first | rfl | (simp; done) | (simp only [← hji16] <;> (first | rfl | simp)) | (simp [*]; done)), H', ⟨by first | omega | exact Nat.le_refl _⟩, ⟨by repeat (first | (with_reducible first | exact HB.out | apply below_alloc | apply pw_below_drewN | apply below_drew1) | exact HB.out)⟩⟩
                  · rw [if_neg c18] at H
                    exact absurd H (by simp)
                · rw [if_neg c17] at H
                  exact absurd H (by simp)
              · rw [if_neg c15] at H
                have c15b0 : decide (0 < (l0.length : Int)) = false := decide_eq_false c15
                have c15b1 : decide (0 < l0.length) = false := decide_eq_false (by omega)
                clear c15
                have H' := Aside0.mk H
                clear H
                go_wp2_with (first | ((with_reducible refine gate_callee (f := 27) rfl ?_); refine goesL_ (some 15) rfl rfl Try.func27 (by kernel_rfl) rfl #[.slice A0 l0.length c0] rfl (by (try simp only [List.map_toArray, List.map_cons, List.map_nil]); first | done | rfl | (simp only [List.length_drop, List.length_take]; rfl)) ?_; (with_reducible refine (watchmanref18_Is.calls k _ _ l0 true _ ?side1 ?side2 A5.out).mono ?_); (case side1 => repeat (first | exact (Kd.C_below HR0.out HB.out) | (with_reducible refine Kd.C_alloc ?_ _) | (with_reducible refine Kd.C_drewN ?_ _) | (with_reducible refine Kd.C_drew ?_))); (case side2 => exact HC0.out); rintro e w20 ⟨rfl, hb⟩; refine ⟨_, rfl, ?_⟩; replace HB := Aside0.mk (below_step (by repeat (first | (with_reducible first | exact HB.out | apply below_alloc | apply pw_below_drewN | apply below_drew1) | exact HB.out)) hb); (try clear hb); (try clear hb2); (try clear hk); (try clear hi)))
                go_meet
                case rel => exact ⟨_, (false), (by first | rfl | (simp; done) | (simp [*]; done)), H', ⟨by first | omega | exact Nat.le_refl _⟩, ⟨by repeat (first | (with_reducible first | exact HB.out | apply below_alloc | apply pw_below_drewN | apply below_drew1) | exact HB.out)⟩⟩
    · replace c6 := Bool.eq_false_iff.mpr c6
      subst c6
      have H1 : (watchmanref18_Open.j0 k l0 a1 a2 true) = some (r1, r2, r3) := by rw [if_neg (show ¬ (false = true) by decide)] at H; exact H
      clear H
      have H := H1
      clear H1
      have H' := Aside0.mk H
      clear H
      go_wp2_with (first | ((with_reducible refine gate_callee (f := 27) rfl ?_); refine goesL_ (some 15) rfl rfl Try.func27 (by kernel_rfl) rfl #[.slice A0 l0.length c0] rfl (by (try simp only [List.map_toArray, List.map_cons, List.map_nil]); first | done | rfl | (simp only [List.length_drop, List.length_take]; rfl)) ?_; (with_reducible refine (watchmanref18_Is.calls k _ _ l0 false _ ?side1 ?side2 A5.out).mono ?_); (case side1 => repeat (first | exact (Kd.C_below HR0.out HB.out) | (with_reducible refine Kd.C_alloc ?_ _) | (with_reducible refine Kd.C_drewN ?_ _) | (with_reducible refine Kd.C_drew ?_))); (case side2 => exact HC0.out); rintro e w21 ⟨rfl, hb⟩; refine ⟨_, rfl, ?_⟩; replace HB := Aside0.mk (below_step (by repeat (first | (with_reducible first | exact HB.out | apply below_alloc | apply pw_below_drewN | apply below_drew1) | exact HB.out)) hb); (try clear hb); (try clear hb2); (try clear hk); (try clear hi)))
      go_meet
      case rel => exact ⟨_, (true), (by first | rfl | (simp; done) | (simp [*]; done)), H', ⟨by first | omega | exact Nat.le_refl _⟩, ⟨by repeat (first | (with_reducible first | exact HB.out | apply below_alloc | apply pw_below_drewN | apply below_drew1) | exact HB.out)⟩⟩
  case rest =>
    clear HC4
    try clear c1
    try clear c2
    try clear p2
    try clear q2
    try clear hx2
    try clear c6
    try clear p6
    try clear c7
    try clear c7b0
    try clear c9
    try clear c9b0
    try clear c11
    try clear c11b0
    try clear c13
    try clear c13b0
    try clear c15
    try clear c15b0
    try clear c15b1
    try clear c17
    try clear c17b0
    try clear c18
    try clear c18b0
    try clear c19
    try clear hx227_0
    try clear hx227_1
    try clear hx227_2
    try clear hx227_3
    try clear hx227_4
    try clear hx227_5
    try clear p227
    try clear q227
    obtain ⟨kq, x48_3, rfl, HA, HJ3, HB⟩ := hcut
    cases kq with
    | zero => exact absurd HA.out (by simp [watchmanref18_Open.j0])
    | succ kj3 =>
      have H := HA.out
      clear HA
      simp only [watchmanref18_Open.j0] at H
      by_cases c22 : x48_3 = true
      · subst c22
        have H1 : (some (([] : List (S39)), 0, 1)) = some (r1, r2, r3) := by rw [if_pos rfl] at H; exact H
        clear H
        have H := H1
        clear H1
        simp only [Option.some.injEq, Prod.mk.injEq] at H
        obtain ⟨rfl, rfl, rfl⟩ := H
        go_wp2
        go_ret3
        exact ⟨_, by first | rfl | (simp [errW_none, errW_some] <;> rfl) | (simp [*, errW_none, errW_some] <;> rfl), by first | exact Kd.S_nil _ _ _ _ _ | exact Kd.N_nil _ _ _ _ _ | exact Kd.V_nil _ _ _ _ _ | exact Kd.Q_nil _ _ _ _ _ | exact Kd.R_nil _ _ _ _ _, by repeat (first | (with_reducible first | exact HB.out | apply below_alloc | apply pw_below_drewN | apply below_drew1) | exact HB.out)⟩
      · replace c22 := Bool.eq_false_iff.mpr c22
        subst c22
        have H1 : ((watchmanref18_Own.f kj3 l0).bind fun t228 => (watchmanref18_Open.l0 kj3 a1 a2 t228)) = some (r1, r2, r3) := by rw [if_neg (show ¬ (false = true) by decide)] at H; exact H
        clear H
        have H := H1
        clear H1
        replace H := Option.bind_eq_some_iff.mp H
        obtain ⟨t228, A230, H⟩ := H
        replace H : (watchmanref18_Open.l0 kj3 a1 a2 t228) = some (r1, r2, r3) := H
        have A23 := Aside0.mk A230
        clear A230
        have H' := Aside0.mk H
        clear H
        go_wp2_with (first | ((with_reducible refine gate_callee (f := 18) rfl ?_); refine goesL_ (some 50) rfl rfl Try.func18 (by kernel_rfl) rfl #[.slice A0 l0.length c0] rfl (by (try simp only [List.map_toArray, List.map_cons, List.map_nil]); first | done | rfl | (simp only [List.length_drop, List.length_take]; rfl)) ?_; (with_reducible refine (watchmanref18_Own.calls kj3 _ _ l0 t228 _ ?side1 ?side2 A23.out).mono ?_); (case side1 => repeat (first | exact (Kd.C_below HR0.out HB.out) | (with_reducible refine Kd.C_alloc ?_ _) | (with_reducible refine Kd.C_drewN ?_ _) | (with_reducible refine Kd.C_drew ?_))); (case side2 => exact HC0.out); rintro e w24 ⟨v229, rfl, ho0, hb⟩; refine ⟨_, rfl, ?_⟩; have HO230 := Aside0.mk (Kd.N_lower (Kd.N_mono (ok' := fun k_ => (w.heap.size ≤ k_)) (Kd.S_N (Kd.S_bound ho0)) (fun k_ hk_ => (Nat.le_trans (below_size (by repeat (first | (with_reducible first | exact HB.out | apply below_alloc | apply pw_below_drewN | apply below_drew1) | exact HB.out))) hk_.2.1))) (below_size (by repeat (first | (with_reducible first | exact HB.out | apply below_alloc | apply pw_below_drewN | apply below_drew1) | exact HB.out)))); replace HB := Aside0.mk (below_step (by repeat (first | (with_reducible first | exact HB.out | apply below_alloc | apply pw_below_drewN | apply below_drew1) | exact HB.out)) hb); (try clear hb); (try clear hb2); (try clear hk); (try clear hi); (try clear ho0)))
        go_loopg [9] kj3 (fun kq v9 w' => ∃ (x9_2 : List (S39)), Aside0 (watchmanref18_Open.l0 kq a1 a2 x9_2 = some (r1, r2, r3)) ∧ Aside0 (kq ≤ kj3) ∧ Aside0 (Kd.N k39 39 w' w.heap.size (fun k_ => (w.heap.size ≤ k_)) v9 x9_2) ∧ Aside0 (Below w.heap.size w w'))
        case atStart => exact ⟨(t228), H', ⟨Nat.le_refl _⟩, ⟨by (with_reducible repeat (first | apply Kd.N_alloc | apply Kd.N_drewN | apply Kd.N_drew)); exact HO230.out⟩, ⟨by repeat (first | (with_reducible first | exact HB.out | apply below_alloc | apply pw_below_drewN | apply below_drew1) | exact HB.out)⟩⟩
        case round =>
          clear H'
          try clear c1
          try clear c2
          try clear p2
          try clear q2
          try clear hx2
          try clear c6
          try clear p6
          try clear c7
          try clear c7b0
          try clear c9
          try clear c9b0
          try clear c11
          try clear c11b0
          try clear c13
          try clear c13b0
          try clear c15
          try clear c15b0
          try clear c15b1
          try clear c17
          try clear c17b0
          try clear c18
          try clear c18b0
          try clear c19
          try clear c22
          try clear p22
          try clear q22
          try clear hx22
          try clear hx227_0
          try clear hx227_1
          try clear hx227_2
          try clear hx227_3
          try clear hx227_4
          try clear hx227_5
          try clear p2
          try clear p227
          try clear p6
          try clear q2
          try clear q227
          obtain ⟨x9_2, HA, HK2, HO_9, HB⟩ := hrel
          cases gk with
          | zero => exact absurd HA.out (by simp [watchmanref18_Open.l0])
          | succ k2 =>
            have H := HA.out
            clear HA
            simp only [watchmanref18_Open.l0] at H
            by_cases c25 : (x9_2.length : Int) ≥ a1
            · rw [if_pos c25] at H
              have c25b0 : decide (a1 ≤ (x9_2.length : Int)) = true := decide_eq_true c25
              clear c25
              replace H := Option.bind_eq_some_iff.mp H
              obtain ⟨⟨t234, t235⟩, A260, H⟩ := H
              replace H : (watchmanref18_Open.l1 k2 a1 a2 x9_2 t234 ([] : List (S39)) 0) = some (r1, r2, r3) := H
              have A26 := Aside0.mk A260
              clear A260
              have H' := Aside0.mk H
              clear H
              obtain ⟨Ao27, co27, eo27⟩ := Kd.N_slice HO_9.out
              subst eo27
              go_wp2_with (first | ((with_reducible refine gate_callee (f := 24) rfl ?_); refine goesL_ (some 57) rfl rfl Try.func24 (by kernel_rfl) rfl #[.slice Ao27 x9_2.length co27] rfl (by (try simp only [List.map_toArray, List.map_cons, List.map_nil]); first | done | rfl | (simp only [List.length_drop, List.length_take]; rfl)) ?_; (with_reducible refine (watchmanref18_Oldest.calls k2 _ _ x9_2 t234 t235 _ ?side1 ?side2 A26.out).mono ?_); (case side1 => repeat (first | exact (Kd.N_reads' HO_9.out).2.2 | (with_reducible refine Kd.C_alloc ?_ _) | (with_reducible refine Kd.C_drewN ?_ _) | (with_reducible refine Kd.C_drew ?_))); (case side2 => exact (Kd.N_reads' HO_9.out).2.1); rintro e w' ⟨rfl, ⟨nd, rfl⟩⟩; refine ⟨_, rfl, ?_⟩))
              go_loopg [12, 13] k2 (fun kq v12 v13 w' => ∃ (x12_3 : List (S39)) (x13_3 : Int), v13 = .int .i64 x13_3 ∧ Aside0 (watchmanref18_Open.l1 kq a1 a2 x9_2 t234 x12_3 x13_3 = some (r1, r2, r3)) ∧ Aside0 (kq ≤ k2) ∧ Aside0 (Kd.N k39 39 w' w.heap.size (fun k_ => (w.heap.size ≤ k_) ∧ some k_ ≠ (v12 : Value).ownBlock) (.slice Ao27 x9_2.length co27) x9_2) ∧ Aside0 (Kd.N k39 39 w' w.heap.size (fun k_ => (w.heap.size ≤ k_) ∧ some k_ ≠ ((.slice Ao27 x9_2.length co27) : Value).ownBlock) v12 x12_3) ∧ Aside0 (Below w.heap.size w w'))
              case atStart => exact ⟨(([] : List (S39))), (0), (by first | rfl | (simp; done) | (simp [*]; done)), H', ⟨Nat.le_refl _⟩, ⟨by (with_reducible repeat (first | apply Kd.N_alloc | apply Kd.N_drewN | apply Kd.N_drew)); exact Kd.N_mono HO_9.out (fun _ hk => ⟨hk, (by simp [Value.ownBlock])⟩)⟩, ⟨by first | exact Kd.S_nil _ _ _ _ _ | exact Kd.N_nil _ _ _ _ _ | exact Kd.V_nil _ _ _ _ _ | exact Kd.Q_nil _ _ _ _ _ | exact Kd.R_nil _ _ _ _ _⟩, ⟨by repeat (first | (with_reducible first | exact HB.out | apply below_alloc | apply pw_below_drewN | apply below_drew1) | exact HB.out)⟩⟩
              case round =>
                clear H'
                try clear c1
                try clear c2
                try clear p2
                try clear q2
                try clear hx2
                try clear c6
                try clear p6
                try clear c7
                try clear c7b0
                try clear c9
                try clear c9b0
                try clear c11
                try clear c11b0
                try clear c13
                try clear c13b0
                try clear c15
                try clear c15b0
                try clear c15b1
                try clear c17
                try clear c17b0
                try clear c18
                try clear c18b0
                try clear c19
                try clear c22
                try clear p22
                try clear q22
                try clear hx22
                try clear c24
                try clear c25
                try clear c25b0
                try clear c27
                try clear hx227_0
                try clear hx227_1
                try clear hx227_2
                try clear hx227_3
                try clear hx227_4
                try clear hx227_5
                try clear p2
                try clear p22
                try clear p227
                try clear p6
                try clear q2
                try clear q22
                try clear q227
                obtain ⟨x12_3, x13_3, rfl, HA, HK3, HO_9, HO_12, HB⟩ := hrel
                cases gk with
                | zero => exact absurd HA.out (by simp [watchmanref18_Open.l1])
                | succ k3 =>
                  have H := HA.out
                  clear HA
                  simp only [watchmanref18_Open.l1] at H
                  by_cases c28 : x13_3 < (x9_2.length : Int)
                  · rw [if_pos c28] at H
                    have c28b0 : decide (x13_3 < (x9_2.length : Int)) = true := decide_eq_true c28
                    clear c28
                    by_cases c29 : 0 ≤ x13_3
                    · rw [if_pos c29] at H
                      have c29b0 : decide (0 ≤ x13_3) = true := decide_eq_true c29
                      clear c29
                      by_cases c30 : ((rd_T39 x9_2 x13_3).f0) = t234
                      · rw [if_pos c30] at H
                        have c30b0 : (((rd_T39 x9_2 x13_3).f0) == t234) = true := beq_iff_eq.mpr c30
                        have c30b1 : (((rd_T39 x9_2 x13_3).f0) != t234) = false := bne_eq_false_iff_eq.mpr c30
                        clear c30
                        have H' := Aside0.mk H
                        clear H
                        have p236 : 0 ≤ (x13_3 : Int) := of_decide_eq_true (by first | (with_reducible assumption) | assumption)
                        have q236 : x13_3 < (x9_2.length : Int) := of_decide_eq_true (by first | (with_reducible assumption) | assumption)
                        obtain ⟨ad236, A236_5, c236_5, e236, hx236_0, hx236_1, hx236_2, hx236_3, hx236_4, hx236_5, hl236_5, hi236_5⟩ := at_T39 (Kd.N_reads' HO_9.out).2.2 x13_3 p236 q236
                        cases e236
                        obtain ⟨ce236, hce236, hMe236, hcc236⟩ := Kd.N_get HO_9.out z39 x13_3 p236 (by first | exact q236 | exact of_decide_eq_true (by first | (with_reducible assumption) | assumption) | (have e_ := (Kd.N_reads' HO_9.out).1; omega))
                        obtain ⟨ua236_5, uc236_5, rfl, ul236_5, ge236_5⟩ := k39_openF hMe236
                        have hv236_5 := hcc236 5 _ rfl
                        rw [add_field _ _ 5 (by omega)] at hv236_5
                        replace hv236_5 := Option.some.inj (hv236_5.symm.trans hx236_5)
                        injection hv236_5 with hva_ hvn_ hvc_
                        rw [hva_] at ge236_5
                        rw [hvc_] at ul236_5
                        have HL236_5 := Aside0.mk (show Kd.V Kd.string 9 _ w.heap.size _ _ ((rd_T39 x9_2 x13_3).f3.f2) from Kd.V_mk ul236_5 ge236_5)
                        clear hva_ hvn_ hvc_ ge236_5 ul236_5
                        clear hcc236 hce236
                        have HR236_5 := Aside0.mk hi236_5
                        have HC236_5 := Aside0.mk hl236_5
                        clear hi236_5 hl236_5
                        replace p236 := eq_true p236
                        replace q236 := eq_true q236
                        go_wp2
                        go_roundg k3
                        case measure => have := HJ3.out; have := HK2.out; have := HK3.out; omega
                        case rel => exact ⟨(x12_3), (wrap64 (x13_3 + 1)), (by first | rfl | (simp; done) | (simp [*]; done)), H', ⟨by have := HJ3.out; have := HK2.out; have := HK3.out; omega⟩, ⟨by (with_reducible repeat (first | apply Kd.N_alloc | apply Kd.N_drewN | apply Kd.N_drew)); exact HO_9.out⟩, ⟨by (with_reducible repeat (first | apply Kd.N_alloc | apply Kd.N_drewN | apply Kd.N_drew)); exact HO_12.out⟩, ⟨by repeat (first | (with_reducible first | exact HB.out | apply below_alloc | apply pw_below_drewN | apply below_drew1) | exact HB.out)⟩⟩
                      · rw [if_neg c30] at H
                        have c30b0 : (((rd_T39 x9_2 x13_3).f0) == t234) = false := beq_eq_false_iff_ne.mpr c30
                        have c30b1 : (((rd_T39 x9_2 x13_3).f0) != t234) = true := bne_iff_ne.mpr c30
                        by_cases c31 : x12_3.length < 2199023255552
                        · rw [if_pos c31] at H
                          have LMc31 := Aside0.mk c31
                          clear c31
                          obtain ⟨y238, hy238⟩ : ∃ y_ : List (S39), y_ = (x12_3 ++ [(⟨(rd_T39 x9_2 x13_3).f0, (rd_T39 x9_2 x13_3).f1, (rd_T39 x9_2 x13_3).f2, (⟨(rd_T39 x9_2 x13_3).f3.f0, (rd_T39 x9_2 x13_3).f3.f1, (rd_T39 x9_2 x13_3).f3.f2⟩ : S26)⟩ : S39)]) := ⟨_, rfl⟩
                          replace H : (watchmanref18_Open.l1 k3 a1 a2 x9_2 t234 y238 (wrap64 (x13_3 + 1))) = some (r1, r2, r3) := by first | (rw [hy238]; with_reducible exact H) | (have H2_ := (Option.bind_some _ _).symm.trans H; rw [hy238]; with_reducible exact H2_) | (have H2_ := (Option.bind_some _ _).symm.trans H; with_reducible exact H2_) | with_reducible exact H | (rw [hy238]; exact H) | exact H
                          have Ny238 := Aside0.mk hy238
                          clear hy238
                          have H' := Aside0.mk H
                          clear H
                          have p236 : 0 ≤ (x13_3 : Int) := of_decide_eq_true (by first | (with_reducible assumption) | assumption)
                          have q236 : x13_3 < (x9_2.length : Int) := of_decide_eq_true (by first | (with_reducible assumption) | assumption)
                          obtain ⟨ad236, A236_5, c236_5, e236, hx236_0, hx236_1, hx236_2, hx236_3, hx236_4, hx236_5, hl236_5, hi236_5⟩ := at_T39 (Kd.N_reads' HO_9.out).2.2 x13_3 p236 q236
                          cases e236
                          obtain ⟨ce236, hce236, hMe236, hcc236⟩ := Kd.N_get HO_9.out z39 x13_3 p236 (by first | exact q236 | exact of_decide_eq_true (by first | (with_reducible assumption) | assumption) | (have e_ := (Kd.N_reads' HO_9.out).1; omega))
                          obtain ⟨ua236_5, uc236_5, rfl, ul236_5, ge236_5⟩ := k39_openF hMe236
                          have hv236_5 := hcc236 5 _ rfl
                          rw [add_field _ _ 5 (by omega)] at hv236_5
                          replace hv236_5 := Option.some.inj (hv236_5.symm.trans hx236_5)
                          injection hv236_5 with hva_ hvn_ hvc_
                          rw [hva_] at ge236_5
                          rw [hvc_] at ul236_5
                          have HL236_5 := Aside0.mk (show Kd.V Kd.string 9 _ w.heap.size _ _ ((rd_T39 x9_2 x13_3).f3.f2) from Kd.V_mk ul236_5 ge236_5)
                          clear hva_ hvn_ hvc_ ge236_5 ul236_5
                          clear hcc236 hce236
                          have HR236_5 := Aside0.mk hi236_5
                          have HC236_5 := Aside0.mk hl236_5
                          clear hi236_5 hl236_5
                          replace p236 := eq_true p236
                          replace q236 := eq_true q236
                          have p237 : 0 ≤ (x13_3 : Int) := of_decide_eq_true (by first | (with_reducible assumption) | assumption)
                          have q237 : x13_3 < (x9_2.length : Int) := of_decide_eq_true (by first | (with_reducible assumption) | assumption)
                          obtain ⟨ad237, A237_5, c237_5, e237, hx237_0, hx237_1, hx237_2, hx237_3, hx237_4, hx237_5, hl237_5, hi237_5⟩ := at_T39 (Kd.N_reads' HO_9.out).2.2 x13_3 p237 q237
                          obtain rfl : ad236 = ad237 := (by injection e237)
                          obtain ⟨ce237, hce237, hMe237, hcc237⟩ := Kd.N_get HO_9.out z39 x13_3 p237 (by first | exact q237 | exact of_decide_eq_true (by first | (with_reducible assumption) | assumption) | (have e_ := (Kd.N_reads' HO_9.out).1; omega))
                          obtain ⟨ua237_5, uc237_5, rfl, ul237_5, ge237_5⟩ := k39_openF hMe237
                          have hv237_5 := hcc237 5 _ rfl
                          rw [add_field _ _ 5 (by omega)] at hv237_5
                          replace hv237_5 := Option.some.inj (hv237_5.symm.trans hx237_5)
                          injection hv237_5 with hva_ hvn_ hvc_
                          rw [hva_] at ge237_5
                          rw [hvc_] at ul237_5
                          have HL237_5 := Aside0.mk (show Kd.V Kd.string 9 _ w.heap.size _ _ ((rd_T39 x9_2 x13_3).f3.f2) from Kd.V_mk ul237_5 ge237_5)
                          clear hva_ hvn_ hvc_ ge237_5 ul237_5
                          clear hcc237 hce237
                          have HR237_5 := Aside0.mk hi237_5
                          have HC237_5 := Aside0.mk hl237_5
                          clear hi237_5 hl237_5
                          replace p237 := eq_true p237
                          replace q237 := eq_true q237
                          have ea_ := Option.some.inj (hx236_5.symm.trans hx237_5)
                          injection ea_ with ea_ en_ ec_
                          subst ea_
                          subst ec_
                          clear en_
                          go_wp2_with (first | ((with_reducible refine gate_builtin (b := .append) (xs := #[.tmp 73, .tmp 78]) rfl ?_); (try (refine gate_guard (by rfl) ?_; dsimp only)); at_builtin; refine Kd.N_append k39 (w0 := w) w.heap.size rfl (.tmp 73) (.tmp 78) 22 39 (.agg #[(.int .i64 0), (.int .i64 0), (.int .i64 0), (.int .i64 0), (.int .i64 0), (.slice none 0 0)]) 64 rfl Try.underlying22 info39 rfl (by decide) (by omega) u12 x12_3 (⟨(rd_T39 x9_2 x13_3).f0, (rd_T39 x9_2 x13_3).f1, (rd_T39 x9_2 x13_3).f2, (⟨(rd_T39 x9_2 x13_3).f3.f0, (rd_T39 x9_2 x13_3).f3.f1, (rd_T39 x9_2 x13_3).f3.f2⟩ : S26)⟩ : S39) [.int .i64 ((rd_T39 x9_2 x13_3).f0), .int .i64 ((rd_T39 x9_2 x13_3).f1), .int .i64 ((rd_T39 x9_2 x13_3).f2), .int .i64 ((rd_T39 x9_2 x13_3).f3.f0), .int .i64 ((rd_T39 x9_2 x13_3).f3.f1), .slice A236_5 ((rd_T39 x9_2 x13_3).f3.f2).length c236_5] (fun k_ => (w.heap.size ≤ k_) ∧ some k_ ≠ (.slice (some ad236) x9_2.length co27 : Value).ownBlock) (fun k_ => ((fun k_ => (w.heap.size ≤ k_) ∧ some k_ ≠ (.slice (some ad236) x9_2.length co27 : Value).ownBlock)) k_ ∧ some k_ ≠ (u12 : Value).ownBlock) rfl rfl ?aP (fun _ hk => hk) ?aF ?aO ?aB ?aS ?aL ?_; (case aP => exact (k39_mkF _ _ (⟨(rd_T39 x9_2 x13_3).f0, (rd_T39 x9_2 x13_3).f1, (rd_T39 x9_2 x13_3).f2, (⟨(rd_T39 x9_2 x13_3).f3.f0, (rd_T39 x9_2 x13_3).f3.f1, (rd_T39 x9_2 x13_3).f3.f2⟩ : S26)⟩ : S39) (Kd.V_reads' (Kd.V_mono (ok' := (fun k_ => ((fun k_ => (w.heap.size ≤ k_) ∧ some k_ ≠ (.slice (some ad236) x9_2.length co27 : Value).ownBlock)) k_ ∧ some k_ ≠ (u12 : Value).ownBlock)) (HL237_5.out) (fun k_ hk => ⟨⟨hk.1.1, hk.2⟩, hk.1.2⟩))).2.1 (Kd.V_F (Kd.V_mono (ok' := (fun k_ => ((fun k_ => (w.heap.size ≤ k_) ∧ some k_ ≠ (.slice (some ad236) x9_2.length co27 : Value).ownBlock)) k_ ∧ some k_ ≠ (u12 : Value).ownBlock)) (HL237_5.out) (fun k_ hk => ⟨⟨hk.1.1, hk.2⟩, hk.1.2⟩))))); (case aB => exact (by repeat (first | (with_reducible first | exact HB.out | apply below_alloc | apply pw_below_drewN | apply below_drew1) | exact HB.out))); (case aF => exact (fun k_ hk => ⟨(Nat.le_trans (below_size (by repeat (first | (with_reducible first | exact HB.out | apply below_alloc | apply pw_below_drewN | apply below_drew1) | exact HB.out))) hk), Kd.fresh' (Kd.N_lt (by (with_reducible repeat (first | apply Kd.N_alloc | apply Kd.N_drewN | apply Kd.N_drew)); exact HO_9.out)) k_ hk⟩)); (case aO => exact (by (with_reducible repeat (first | apply Kd.N_alloc | apply Kd.N_drewN | apply Kd.N_drew)); exact HO_12.out)); (case aS => exact (below_size (by repeat (first | (with_reducible first | exact HB.out | apply below_alloc | apply pw_below_drewN | apply below_drew1) | exact HB.out)))); (case aL => have := LMc31.out; omega); intro v239 w32 ho hb hg hat; rw [← Ny238.out] at ho; replace HO_9 := Aside0.mk (Kd.N_afterv (ok := (fun k_ => (w.heap.size ≤ k_))) (by (with_reducible repeat (first | apply Kd.N_alloc | apply Kd.N_drewN | apply Kd.N_drew)); exact HO_9.out) hg hat); replace HL236_5 := Aside0.mk (Kd.V_afterv (ok := (fun k_ => (w.heap.size ≤ k_) ∧ some k_ ≠ (.slice (some ad236) x9_2.length co27 : Value).ownBlock)) (by (with_reducible repeat (first | apply Kd.V_alloc | apply Kd.V_drewN | apply Kd.V_drew)); exact Kd.V_mono HL236_5.out (fun _ hk => ⟨⟨hk.1.1, hk.2⟩, hk.1.2⟩)) hg hat); replace HL237_5 := Aside0.mk (Kd.V_afterv (ok := (fun k_ => (w.heap.size ≤ k_) ∧ some k_ ≠ (.slice (some ad236) x9_2.length co27 : Value).ownBlock)) (by (with_reducible repeat (first | apply Kd.V_alloc | apply Kd.V_drewN | apply Kd.V_drew)); exact Kd.V_mono HL237_5.out (fun _ hk => ⟨⟨hk.1.1, hk.2⟩, hk.1.2⟩)) hg hat); replace HB := Aside0.mk (hb); have HO240 := Aside0.mk (ho); clear HO_12; clear ho hb hg hat))
                          go_roundg k3
                          case measure => have := HJ3.out; have := HK2.out; have := HK3.out; omega
                          case rel => exact ⟨(y238), (wrap64 (x13_3 + 1)), (by first | rfl | (simp; done) | (simp [*]; done)), H', ⟨by have := HJ3.out; have := HK2.out; have := HK3.out; omega⟩, ⟨by (with_reducible repeat (first | apply Kd.N_alloc | apply Kd.N_drewN | apply Kd.N_drew)); exact HO_9.out⟩, ⟨by (with_reducible repeat (first | apply Kd.N_alloc | apply Kd.N_drewN | apply Kd.N_drew)); exact HO240.out⟩, ⟨by repeat (first | (with_reducible first | exact HB.out | apply below_alloc | apply pw_below_drewN | apply below_drew1) | exact HB.out)⟩⟩
                        · rw [if_neg c31] at H
                          exact absurd H (by simp)
                    · rw [if_neg c29] at H
                      exact absurd H (by simp)
                  · rw [if_neg c28] at H
                    have c28b0 : decide (x13_3 < (x9_2.length : Int)) = false := decide_eq_false c28
                    clear c28
                    have H' := Aside0.mk H
                    clear H
                    go_wp2
                    go_roundg k3
                    case measure => have := HJ3.out; have := HK2.out; have := HK3.out; omega
                    case rel => exact ⟨(x12_3), H', ⟨by have := HJ3.out; have := HK2.out; have := HK3.out; omega⟩, ⟨by (with_reducible repeat (first | apply Kd.N_alloc | apply Kd.N_drewN | apply Kd.N_drew)); exact Kd.N_mono HO_12.out (fun _ hk => hk.1)⟩, ⟨by repeat (first | (with_reducible first | exact HB.out | apply below_alloc | apply pw_below_drewN | apply below_drew1) | exact HB.out)⟩⟩
            · rw [if_neg c25] at H
              have c25b0 : decide (a1 ≤ (x9_2.length : Int)) = false := decide_eq_false c25
              clear c25
              by_cases c33 : x9_2.length < 2199023255552
              · rw [if_pos c33] at H
                have LMc33 := Aside0.mk c33
                clear c33
                obtain ⟨y231, hy231⟩ : ∃ y_ : List (S39), y_ = (x9_2 ++ [(⟨a2, 0, a2, (⟨0, 0, ([] : List ByteArray)⟩ : S26)⟩ : S39)]) := ⟨_, rfl⟩
                replace H : (some (y231, a2, 0)) = some (r1, r2, r3) := by first | (rw [hy231]; with_reducible exact H) | (have H2_ := (Option.bind_some _ _).symm.trans H; rw [hy231]; with_reducible exact H2_) | (have H2_ := (Option.bind_some _ _).symm.trans H; with_reducible exact H2_) | with_reducible exact H | (rw [hy231]; exact H) | exact H
                have Ny231 := Aside0.mk hy231
                clear hy231
                simp only [Option.some.injEq, Prod.mk.injEq] at H
                obtain ⟨rfl, rfl, rfl⟩ := H
                obtain ⟨Ao34, co34, eo34⟩ := Kd.N_slice HO_9.out
                subst eo34
                go_wp2_with (first | ((with_reducible refine gate_builtin (b := .append) (xs := #[.tmp 81, .tmp 85]) rfl ?_); (try (refine gate_guard (by rfl) ?_; dsimp only)); at_builtin; refine Kd.N_append k39 (w0 := w) w.heap.size rfl (.tmp 81) (.tmp 85) 22 39 (.agg #[(.int .i64 0), (.int .i64 0), (.int .i64 0), (.int .i64 0), (.int .i64 0), (.slice none 0 0)]) 64 rfl Try.underlying22 info39 rfl (by decide) (by omega) (.slice Ao34 x9_2.length co34) x9_2 (⟨a2, 0, a2, (⟨0, 0, ([] : List ByteArray)⟩ : S26)⟩ : S39) [.int .i64 a2, .int .i64 0, .int .i64 a2, .int .i64 0, .int .i64 0, .slice none 0 0] (fun k_ => (w.heap.size ≤ k_)) (fun k_ => ((fun k_ => (w.heap.size ≤ k_))) k_ ∧ some k_ ≠ (.slice Ao34 x9_2.length co34 : Value).ownBlock) rfl rfl ?aP (fun _ hk => hk) ?aF ?aO ?aB ?aS ?aL ?_; (case aP => exact (k39_mkF _ _ (⟨a2, 0, a2, (⟨0, 0, ([] : List ByteArray)⟩ : S26)⟩ : S39) (Nat.le_refl _) (Kd.F_nil _ _ _))); (case aB => exact (by repeat (first | (with_reducible first | exact HB.out | apply below_alloc | apply pw_below_drewN | apply below_drew1) | exact HB.out))); (case aF => exact (fun k_ hk => (Nat.le_trans (below_size (by repeat (first | (with_reducible first | exact HB.out | apply below_alloc | apply pw_below_drewN | apply below_drew1) | exact HB.out))) hk))); (case aO => exact (by (with_reducible repeat (first | apply Kd.N_alloc | apply Kd.N_drewN | apply Kd.N_drew)); exact HO_9.out)); (case aS => exact (below_size (by repeat (first | (with_reducible first | exact HB.out | apply below_alloc | apply pw_below_drewN | apply below_drew1) | exact HB.out)))); (case aL => have := LMc33.out; omega); intro v232 w35 ho hb hg hat; rw [← Ny231.out] at ho; replace HB := Aside0.mk (hb); have HO233 := Aside0.mk (ho); clear HO_9; clear ho hb hg hat))
                go_ret3
                exact ⟨_, by first | rfl | (simp [errW_none, errW_some] <;> rfl) | (simp [*, errW_none, errW_some] <;> rfl), by (with_reducible repeat (first | apply Kd.N_alloc | apply Kd.N_drewN | apply Kd.N_drew)); exact HO233.out, by repeat (first | (with_reducible first | exact HB.out | apply below_alloc | apply pw_below_drewN | apply below_drew1) | exact HB.out)⟩
              · rw [if_neg c33] at H
                exact absurd H (by simp)

end Go.Proofs.Ytkhdpmbjjcmooaa.F
