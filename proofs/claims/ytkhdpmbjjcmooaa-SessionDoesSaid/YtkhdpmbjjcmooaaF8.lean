-- Written by a program of this session (xprint.py), out of the translation and of contracts proved by hand.
import Derived.Test.YtkhdpmbjjcmooaaF0
import Derived.Test.YtkhdpmbjjcmooaaF3
import Derived.Test.YtkhdpmbjjcmooaaF4
import Derived.Test.YtkhdpmbjjcmooaaF6
import Derived.Test.YtkhdpmbjjcmooaaF7
namespace Go.Proofs.Ytkhdpmbjjcmooaa.F
open Go.RowKit Go.Proofs.YtkhdpmbjjcmooaaV.PrintWords Go.Proofs.YtkhdpmbjjcmooaaV.PrintLast Go.Proofs.YtkhdpmbjjcmooaaV.PrintMore
attribute [local go_sem] max2_int min2_int max_two min_two max_three min_three max_four min_four   -- for this text's walks alone
set_option linter.unusedVariables false
set_option linter.unusedSimpArgs false

/-! ### session_Open: function 15 -/
mutual
def session_Open.j0 : Nat → List (S39) → Int → Int → Bool → Option ((List (S39)) × Int × Int)
  | 0, _, _, _, _ => none
  | k + 1, x0, x1, x2, x45 => if x45 = true then (some (([] : List (S39)), 0, 1)) else ((session_own.f k x0).bind fun t189 => (session_Open.l0 k x1 x2 t189))
def session_Open.l0 : Nat → Int → Int → List (S39) → Option ((List (S39)) × Int × Int)
  | 0, _, _, _ => none
  | k + 1, x1, x2, x9 => if (x9.length : Int) ≥ x1 then (if 0 < (x9.length : Int) then (if 1 ≤ (x9.length : Int) then ((session_oldestJ.f k ((rd_T39 x9 0).f0) ((rd_T39 x9 0).f1) ((rd_T39 x9 0).f2) ((rd_T39 x9 0).f3.f0) ((rd_T39 x9 0).f3.f1) ((rd_T39 x9 0).f3.f2) (x9.drop 1)).bind fun bt197 => ((session_place.f x9 bt197.1).bind fun t204 => (if 0 ≤ t204 then (if t204 < (x9.length : Int) then (session_Open.l0 k x1 x2 (x9.eraseIdx (t204 : Int).toNat)) else (none)) else (none)))) else (none)) else (none)) else (if x9.length < 2199023255552 then (some ((x9 ++ [(⟨x2, 0, x2, (⟨0, 0, ([] : List ByteArray)⟩ : S26)⟩ : S39)]), x2, 0)) else (none))
end
def session_Open.f (k : Nat) (l0 : List (S39)) (a1 : Int) (a2 : Int) : Option ((List (S39)) × Int × Int) := (session_Is.f k l0).bind fun t187 => (if t187 = true then (if a1 < 1 then (session_Open.j0 k l0 a1 a2 true) else (if a1 > 30 then (session_Open.j0 k l0 a1 a2 true) else (if a2 < 1 then (session_Open.j0 k l0 a1 a2 true) else (if a2 > 1000000000 then (session_Open.j0 k l0 a1 a2 true) else (if (l0.length : Int) > 0 then (if 0 ≤ (wrap64 ((l0.length : Int) - 1)) then (if (wrap64 ((l0.length : Int) - 1)) < (l0.length : Int) then (session_Open.j0 k l0 a1 a2 (decide (((rd_T39 l0 (wrap64 ((l0.length : Int) - 1))).f0) ≥ a2))) else (none)) else (none)) else (session_Open.j0 k l0 a1 a2 false)))))) else (session_Open.j0 k l0 a1 a2 true))
theorem session_Open.mono_l : ∀ k, (∀ y0 y1 y2 y3, LeO (session_Open.j0 k y0 y1 y2 y3) (session_Open.j0 (k + 1) y0 y1 y2 y3)) ∧ (∀ y0 y1 y2, LeO (session_Open.l0 k y0 y1 y2) (session_Open.l0 (k + 1) y0 y1 y2))
  | 0 => ⟨fun _ _ _ _ r h => by simp [session_Open.j0] at h, fun _ _ _ r h => by simp [session_Open.l0] at h⟩
  | k + 1 => by
    obtain ⟨ih0, ih1⟩ := session_Open.mono_l k
    refine ⟨?_, ?_⟩
    · intro y0 y1 y2 y3
      unfold session_Open.j0
      repeat' first
      | (with_reducible exact ih0 _ _ _ _)
      | (with_reducible exact ih1 _ _ _)
      | (with_reducible exact session_Is.mono _ _)
      | (with_reducible exact session_oldestJ.mono _ _ _ _ _ _ _ _)
      | (with_reducible exact session_own.mono _ _)
      | (with_reducible exact LeO.refl _)
      | (with_reducible exact LeO.none _)
      | (with_reducible refine LeO.ite ?_ ?_)
      | (with_reducible refine LeO.bind ?_ (fun _ => ?_))
      | exact ih0 _ _ _ _
      | exact ih1 _ _ _
      | exact session_Is.mono _ _
      | exact session_oldestJ.mono _ _ _ _ _ _ _ _
      | exact session_own.mono _ _
      | exact LeO.none _
      | refine LeO.ite ?_ ?_
      | refine LeO.bind ?_ (fun _ => ?_)
    · intro y0 y1 y2
      unfold session_Open.l0
      repeat' first
      | (with_reducible exact ih0 _ _ _ _)
      | (with_reducible exact ih1 _ _ _)
      | (with_reducible exact session_Is.mono _ _)
      | (with_reducible exact session_oldestJ.mono _ _ _ _ _ _ _ _)
      | (with_reducible exact session_own.mono _ _)
      | (with_reducible exact LeO.refl _)
      | (with_reducible exact LeO.none _)
      | (with_reducible refine LeO.ite ?_ ?_)
      | (with_reducible refine LeO.bind ?_ (fun _ => ?_))
      | exact ih0 _ _ _ _
      | exact ih1 _ _ _
      | exact session_Is.mono _ _
      | exact session_oldestJ.mono _ _ _ _ _ _ _ _
      | exact session_own.mono _ _
      | exact LeO.none _
      | refine LeO.ite ?_ ?_
      | refine LeO.bind ?_ (fun _ => ?_)
theorem session_Open.mono : ∀ a0 a1 a2 k, LeO (session_Open.f k a0 a1 a2) (session_Open.f (k + 1) a0 a1 a2) := by
  intro a0 a1 a2 k
  obtain ⟨ih0, ih1⟩ := session_Open.mono_l k
  unfold session_Open.f
  repeat' first
      | (with_reducible exact ih0 _ _ _ _)
      | (with_reducible exact ih1 _ _ _)
      | (with_reducible exact session_Is.mono _ _)
      | (with_reducible exact session_oldestJ.mono _ _ _ _ _ _ _ _)
      | (with_reducible exact session_own.mono _ _)
      | (with_reducible exact LeO.refl _)
      | (with_reducible exact LeO.none _)
      | (with_reducible refine LeO.ite ?_ ?_)
      | (with_reducible refine LeO.bind ?_ (fun _ => ?_))
      | exact ih0 _ _ _ _
      | exact ih1 _ _ _
      | exact session_Is.mono _ _
      | exact session_oldestJ.mono _ _ _ _ _ _ _ _
      | exact session_own.mono _ _
      | exact LeO.none _
      | refine LeO.ite ?_ ?_
      | refine LeO.bind ?_ (fun _ => ?_)
def session_Open.T5 : Bool × List (List Nat × List Nat) := (true, [([], []), ([], []), ([1], [1]), ([2], [2]), ([], []), ([4], [4]), ([3, 5], [3, 5]), ([6], [6]), ([0, 7, 6], [0, 7]), ([8, 8, 0, 1, 2, 3, 4, 5, 6, 7, 8], [8])])
def session_Open.B5 : List Nat := [0, 0, 2, 6, 0, 16, 62, 126, 255, 511]
theorem session_Open.tab5 : rtab .any (opsOf Try.f15 5) = session_Open.T5 := by kernel_rfl
theorem session_Open.bits5 : waitsOk session_Open.T5.2 session_Open.B5 = true := by kernel_rfl
set_option maxHeartbeats 8000000 in
set_option maxRecDepth 100000 in
theorem session_Open.calls (k : Nat) (A0 : Option Addr) (c0 : Nat) (l0 : List (S39)) (a1 : Int) (a2 : Int) (r1 : List (S39)) (r2 : Int) (r3 : Int) (w : World) (hr0 : Kd.C k39 w A0 l0.length l0) (hc0 : l0.length ≤ c0) (h : session_Open.f k l0 a1 a2 = some (r1, r2, r3)) :
    Calls Try.prog 15 #[.slice A0 l0.length c0, .int .i64 a1, .int .i64 a2] w fun e w' => ∃ v0_ : Value, e = .returned (.tuple #[v0_, .int .i64 r2, .int .i64 r3]) ∧ Kd.S k39 39 w' w.heap.size (fun _ => True) v0_ r1 ∧ Below w.heap.size w w' := by
  have hu39 := Try.underlying39
  have HR0 := Aside0.mk hr0
  have HC0 := Aside0.mk hc0
  clear hr0 hc0
  have HB := Aside0.mk (Below.refl w.heap.size w)
  have H : ((session_Is.f k l0).bind fun t187 => (if t187 = true then (if a1 < 1 then (session_Open.j0 k l0 a1 a2 true) else (if a1 > 30 then (session_Open.j0 k l0 a1 a2 true) else (if a2 < 1 then (session_Open.j0 k l0 a1 a2 true) else (if a2 > 1000000000 then (session_Open.j0 k l0 a1 a2 true) else (if (l0.length : Int) > 0 then (if 0 ≤ (wrap64 ((l0.length : Int) - 1)) then (if (wrap64 ((l0.length : Int) - 1)) < (l0.length : Int) then (session_Open.j0 k l0 a1 a2 (decide (((rd_T39 l0 (wrap64 ((l0.length : Int) - 1))).f0) ≥ a2))) else (none)) else (none)) else (session_Open.j0 k l0 a1 a2 false)))))) else (session_Open.j0 k l0 a1 a2 true))) = some (r1, r2, r3) := h
  clear h
  have HC4 := Aside0.mk H
  clear H
  go_enter Try.func15, Try.ntmps15
  go_upto_region 1 with (fail)
  go_cut [45] (fun v45 wc => ∃ (kq : Nat) (x45_3 : Bool), v45 = .bool x45_3 ∧ Aside0 (session_Open.j0 kq l0 a1 a2 x45_3 = some (r1, r2, r3)) ∧ Aside0 (kq ≤ k) ∧ Aside0 (Below w.heap.size w wc))
  case first =>
    have H := HC4.out
    clear HC4
    replace H := Option.bind_eq_some_iff.mp H
    obtain ⟨t187, A50, H⟩ := H
    replace H : (if t187 = true then (if a1 < 1 then (session_Open.j0 k l0 a1 a2 true) else (if a1 > 30 then (session_Open.j0 k l0 a1 a2 true) else (if a2 < 1 then (session_Open.j0 k l0 a1 a2 true) else (if a2 > 1000000000 then (session_Open.j0 k l0 a1 a2 true) else (if (l0.length : Int) > 0 then (if 0 ≤ (wrap64 ((l0.length : Int) - 1)) then (if (wrap64 ((l0.length : Int) - 1)) < (l0.length : Int) then (session_Open.j0 k l0 a1 a2 (decide (((rd_T39 l0 (wrap64 ((l0.length : Int) - 1))).f0) ≥ a2))) else (none)) else (none)) else (session_Open.j0 k l0 a1 a2 false)))))) else (session_Open.j0 k l0 a1 a2 true)) = some (r1, r2, r3) := H
    have A5 := Aside0.mk A50
    clear A50
    by_cases c6 : t187 = true
    · subst c6
      have H1 : (if a1 < 1 then (session_Open.j0 k l0 a1 a2 true) else (if a1 > 30 then (session_Open.j0 k l0 a1 a2 true) else (if a2 < 1 then (session_Open.j0 k l0 a1 a2 true) else (if a2 > 1000000000 then (session_Open.j0 k l0 a1 a2 true) else (if (l0.length : Int) > 0 then (if 0 ≤ (wrap64 ((l0.length : Int) - 1)) then (if (wrap64 ((l0.length : Int) - 1)) < (l0.length : Int) then (session_Open.j0 k l0 a1 a2 (decide (((rd_T39 l0 (wrap64 ((l0.length : Int) - 1))).f0) ≥ a2))) else (none)) else (none)) else (session_Open.j0 k l0 a1 a2 false)))))) = some (r1, r2, r3) := by rw [if_pos rfl] at H; exact H
      clear H
      have H := H1
      clear H1
      by_cases c7 : a1 < 1
      · rw [if_pos c7] at H
        have c7b0 : decide (a1 < 1) = true := decide_eq_true c7
        clear c7
        (first | rw [c7b0] | (simp only [i64_w, i32_w]; rw [c7b0]) | skip)
        have H' := Aside0.mk H
        clear H
        go_wp2_with (first | ((with_reducible refine gate_callee (f := 14) rfl ?_); refine goesL_ (some 12) rfl rfl Try.func14 (by kernel_rfl) rfl #[.slice A0 l0.length c0] rfl (by (try simp only [List.map_toArray, List.map_cons, List.map_nil]); first | done | rfl | (simp only [List.length_drop, List.length_take]; rfl)) ?_; (with_reducible refine (session_Is.calls k _ _ l0 true _ ?side1 ?side2 A5.out).mono ?_); (case side1 => repeat (first | exact (Kd.C_below HR0.out HB.out) | (with_reducible refine Kd.C_alloc ?_ _) | (with_reducible refine Kd.C_drewN ?_ _) | (with_reducible refine Kd.C_drew ?_))); (case side2 => exact HC0.out); rintro e w8 ⟨rfl, hb⟩; refine ⟨_, rfl, ?_⟩; replace HB := Aside0.mk (below_step (by repeat (first | (with_reducible first | exact HB.out | apply below_alloc | apply pw_below_drewN | apply below_drew1) | exact HB.out)) hb); (try clear hb); (try clear hb2); (try clear hk); (try clear hi)))
        go_meet
        case rel => exact ⟨_, (true), (by first | rfl | (simp; done) | (simp [*]; done)), H', ⟨by first | omega | exact Nat.le_refl _⟩, ⟨by repeat (first | (with_reducible first | exact HB.out | apply below_alloc | apply pw_below_drewN | apply below_drew1) | exact HB.out)⟩⟩
      · rw [if_neg c7] at H
        have c7b0 : decide (a1 < 1) = false := decide_eq_false c7
        clear c7
        (first | rw [c7b0] | (simp only [i64_w, i32_w]; rw [c7b0]) | skip)
        by_cases c9 : a1 > 30
        · rw [if_pos c9] at H
          have c9b0 : decide (30 < a1) = true := decide_eq_true c9
          clear c9
          have H' := Aside0.mk H
          clear H
          go_wp2_with (first | ((with_reducible refine gate_callee (f := 14) rfl ?_); refine goesL_ (some 12) rfl rfl Try.func14 (by kernel_rfl) rfl #[.slice A0 l0.length c0] rfl (by (try simp only [List.map_toArray, List.map_cons, List.map_nil]); first | done | rfl | (simp only [List.length_drop, List.length_take]; rfl)) ?_; (with_reducible refine (session_Is.calls k _ _ l0 true _ ?side1 ?side2 A5.out).mono ?_); (case side1 => repeat (first | exact (Kd.C_below HR0.out HB.out) | (with_reducible refine Kd.C_alloc ?_ _) | (with_reducible refine Kd.C_drewN ?_ _) | (with_reducible refine Kd.C_drew ?_))); (case side2 => exact HC0.out); rintro e w10 ⟨rfl, hb⟩; refine ⟨_, rfl, ?_⟩; replace HB := Aside0.mk (below_step (by repeat (first | (with_reducible first | exact HB.out | apply below_alloc | apply pw_below_drewN | apply below_drew1) | exact HB.out)) hb); (try clear hb); (try clear hb2); (try clear hk); (try clear hi)))
          go_meet
          case rel => exact ⟨_, (true), (by first | rfl | (simp; done) | (simp [*]; done)), H', ⟨by first | omega | exact Nat.le_refl _⟩, ⟨by repeat (first | (with_reducible first | exact HB.out | apply below_alloc | apply pw_below_drewN | apply below_drew1) | exact HB.out)⟩⟩
        · rw [if_neg c9] at H
          have c9b0 : decide (30 < a1) = false := decide_eq_false c9
          clear c9
          by_cases c11 : a2 < 1
          · rw [if_pos c11] at H
            have c11b0 : decide (a2 < 1) = true := decide_eq_true c11
            clear c11
            have H' := Aside0.mk H
            clear H
            go_wp2_with (first | ((with_reducible refine gate_callee (f := 14) rfl ?_); refine goesL_ (some 12) rfl rfl Try.func14 (by kernel_rfl) rfl #[.slice A0 l0.length c0] rfl (by (try simp only [List.map_toArray, List.map_cons, List.map_nil]); first | done | rfl | (simp only [List.length_drop, List.length_take]; rfl)) ?_; (with_reducible refine (session_Is.calls k _ _ l0 true _ ?side1 ?side2 A5.out).mono ?_); (case side1 => repeat (first | exact (Kd.C_below HR0.out HB.out) | (with_reducible refine Kd.C_alloc ?_ _) | (with_reducible refine Kd.C_drewN ?_ _) | (with_reducible refine Kd.C_drew ?_))); (case side2 => exact HC0.out); rintro e w12 ⟨rfl, hb⟩; refine ⟨_, rfl, ?_⟩; replace HB := Aside0.mk (below_step (by repeat (first | (with_reducible first | exact HB.out | apply below_alloc | apply pw_below_drewN | apply below_drew1) | exact HB.out)) hb); (try clear hb); (try clear hb2); (try clear hk); (try clear hi)))
            go_meet
            case rel => exact ⟨_, (true), (by first | rfl | (simp; done) | (simp [*]; done)), H', ⟨by first | omega | exact Nat.le_refl _⟩, ⟨by repeat (first | (with_reducible first | exact HB.out | apply below_alloc | apply pw_below_drewN | apply below_drew1) | exact HB.out)⟩⟩
          · rw [if_neg c11] at H
            have c11b0 : decide (a2 < 1) = false := decide_eq_false c11
            clear c11
            by_cases c13 : a2 > 1000000000
            · rw [if_pos c13] at H
              have c13b0 : decide (1000000000 < a2) = true := decide_eq_true c13
              clear c13
              have H' := Aside0.mk H
              clear H
              go_wp2_with (first | ((with_reducible refine gate_callee (f := 14) rfl ?_); refine goesL_ (some 12) rfl rfl Try.func14 (by kernel_rfl) rfl #[.slice A0 l0.length c0] rfl (by (try simp only [List.map_toArray, List.map_cons, List.map_nil]); first | done | rfl | (simp only [List.length_drop, List.length_take]; rfl)) ?_; (with_reducible refine (session_Is.calls k _ _ l0 true _ ?side1 ?side2 A5.out).mono ?_); (case side1 => repeat (first | exact (Kd.C_below HR0.out HB.out) | (with_reducible refine Kd.C_alloc ?_ _) | (with_reducible refine Kd.C_drewN ?_ _) | (with_reducible refine Kd.C_drew ?_))); (case side2 => exact HC0.out); rintro e w14 ⟨rfl, hb⟩; refine ⟨_, rfl, ?_⟩; replace HB := Aside0.mk (below_step (by repeat (first | (with_reducible first | exact HB.out | apply below_alloc | apply pw_below_drewN | apply below_drew1) | exact HB.out)) hb); (try clear hb); (try clear hb2); (try clear hk); (try clear hi)))
              go_meet
              case rel => exact ⟨_, (true), (by first | rfl | (simp; done) | (simp [*]; done)), H', ⟨by first | omega | exact Nat.le_refl _⟩, ⟨by repeat (first | (with_reducible first | exact HB.out | apply below_alloc | apply pw_below_drewN | apply below_drew1) | exact HB.out)⟩⟩
            · rw [if_neg c13] at H
              have c13b0 : decide (1000000000 < a2) = false := decide_eq_false c13
              clear c13
              by_cases c15 : (l0.length : Int) > 0
              · rw [if_pos c15] at H
                have c15b0 : decide (0 < (l0.length : Int)) = true := decide_eq_true c15
                have c15b1 : decide (0 < l0.length) = true := decide_eq_true (by omega)
                clear c15
                obtain ⟨ji16, hji16⟩ : ∃ j_ : Int, (wrap64 ((l0.length : Int) - 1)) = j_ := ⟨_, rfl⟩
                replace H : (if 0 ≤ (ji16) then (if (ji16) < (l0.length : Int) then (session_Open.j0 k l0 a1 a2 (decide (((rd_T39 l0 (ji16)).f0) ≥ a2))) else (none)) else (none)) = some (r1, r2, r3) := by first | (rw [hji16] at H; exact H) | (simp only [hji16] at H ⊢; exact H)
                (try rw [hji16] at A5)
                have hji16w : (IntKind.i64.wrap ((l0.length : Int) - 1)) = ji16 := (i64_w _).trans hji16
                by_cases c17 : 0 ≤ (ji16)
                · rw [if_pos c17] at H
                  have c17b0 : decide (0 ≤ (ji16)) = true := decide_eq_true c17
                  clear c17
                  by_cases c18 : (ji16) < (l0.length : Int)
                  · rw [if_pos c18] at H
                    have c18b0 : decide ((ji16) < (l0.length : Int)) = true := decide_eq_true c18
                    clear c18
                    have H' := Aside0.mk H
                    clear H
                    go_wp2_with (first | ((with_reducible refine gate_callee (f := 14) rfl ?_); refine goesL_ (some 12) rfl rfl Try.func14 (by kernel_rfl) rfl #[.slice A0 l0.length c0] rfl (by (try simp only [List.map_toArray, List.map_cons, List.map_nil]); first | done | rfl | (simp only [List.length_drop, List.length_take]; rfl)) ?_; (with_reducible refine (session_Is.calls k _ _ l0 true _ ?side1 ?side2 A5.out).mono ?_); (case side1 => repeat (first | exact (Kd.C_below HR0.out HB.out) | (with_reducible refine Kd.C_alloc ?_ _) | (with_reducible refine Kd.C_drewN ?_ _) | (with_reducible refine Kd.C_drew ?_))); (case side2 => exact HC0.out); rintro e w19 ⟨rfl, hb⟩; refine ⟨_, rfl, ?_⟩; replace HB := Aside0.mk (below_step (by repeat (first | (with_reducible first | exact HB.out | apply below_alloc | apply pw_below_drewN | apply below_drew1) | exact HB.out)) hb); (try clear hb); (try clear hb2); (try clear hk); (try clear hi); have p188 : 0 ≤ ((ji16) : Int) := of_decide_eq_true (by first | (with_reducible assumption) | assumption); have q188 : (ji16) < (l0.length : Int) := of_decide_eq_true (by first | (with_reducible assumption) | assumption); obtain ⟨ad188, A188_5, c188_5, e188, hx188_0, hx188_1, hx188_2, hx188_3, hx188_4, hx188_5, hl188_5, hi188_5⟩ := at_T39 HR0.out (ji16) p188 q188; cases e188; replace hx188_0 := (HB.out.cell (World.block_lt_of_cell? w _ hx188_0)).trans hx188_0; replace hx188_1 := (HB.out.cell (World.block_lt_of_cell? w _ hx188_1)).trans hx188_1; replace hx188_2 := (HB.out.cell (World.block_lt_of_cell? w _ hx188_2)).trans hx188_2; replace hx188_3 := (HB.out.cell (World.block_lt_of_cell? w _ hx188_3)).trans hx188_3; replace hx188_4 := (HB.out.cell (World.block_lt_of_cell? w _ hx188_4)).trans hx188_4; replace hx188_5 := (HB.out.cell (World.block_lt_of_cell? w _ hx188_5)).trans hx188_5; have HR188_5 := Aside0.mk hi188_5; have HC188_5 := Aside0.mk hl188_5; clear hi188_5 hl188_5; replace p188 := eq_true p188; replace q188 := eq_true q188))
                    go_meet
                    case rel => exact ⟨_, (decide (((rd_T39 l0 (ji16)).f0) ≥ a2)), (by first | rfl | (simp; done) | (simp only [← hji16] <;> (first | rfl | simp)) | (simp [*]; done)), H', ⟨by first | omega | exact Nat.le_refl _⟩, ⟨by repeat (first | (with_reducible first | exact HB.out | apply below_alloc | apply pw_below_drewN | apply below_drew1) | exact HB.out)⟩⟩
                  · rw [if_neg c18] at H
                    exact absurd H (by simp)
                · rw [if_neg c17] at H
                  exact absurd H (by simp)
              · rw [if_neg c15] at H
                have c15b0 : decide (0 < (l0.length : Int)) = false := decide_eq_false c15
                have c15b1 : decide (0 < l0.length) = false := decide_eq_false (by omega)
                clear c15
                have H' := Aside0.mk H
                clear H
                go_wp2_with (first | ((with_reducible refine gate_callee (f := 14) rfl ?_); refine goesL_ (some 12) rfl rfl Try.func14 (by kernel_rfl) rfl #[.slice A0 l0.length c0] rfl (by (try simp only [List.map_toArray, List.map_cons, List.map_nil]); first | done | rfl | (simp only [List.length_drop, List.length_take]; rfl)) ?_; (with_reducible refine (session_Is.calls k _ _ l0 true _ ?side1 ?side2 A5.out).mono ?_); (case side1 => repeat (first | exact (Kd.C_below HR0.out HB.out) | (with_reducible refine Kd.C_alloc ?_ _) | (with_reducible refine Kd.C_drewN ?_ _) | (with_reducible refine Kd.C_drew ?_))); (case side2 => exact HC0.out); rintro e w20 ⟨rfl, hb⟩; refine ⟨_, rfl, ?_⟩; replace HB := Aside0.mk (below_step (by repeat (first | (with_reducible first | exact HB.out | apply below_alloc | apply pw_below_drewN | apply below_drew1) | exact HB.out)) hb); (try clear hb); (try clear hb2); (try clear hk); (try clear hi)))
                go_meet
                case rel => exact ⟨_, (false), (by first | rfl | (simp; done) | (simp [*]; done)), H', ⟨by first | omega | exact Nat.le_refl _⟩, ⟨by repeat (first | (with_reducible first | exact HB.out | apply below_alloc | apply pw_below_drewN | apply below_drew1) | exact HB.out)⟩⟩
    · replace c6 := Bool.eq_false_iff.mpr c6
      subst c6
      have H1 : (session_Open.j0 k l0 a1 a2 true) = some (r1, r2, r3) := by rw [if_neg (show ¬ (false = true) by decide)] at H; exact H
      clear H
      have H := H1
      clear H1
      have H' := Aside0.mk H
      clear H
      go_wp2_with (first | ((with_reducible refine gate_callee (f := 14) rfl ?_); refine goesL_ (some 12) rfl rfl Try.func14 (by kernel_rfl) rfl #[.slice A0 l0.length c0] rfl (by (try simp only [List.map_toArray, List.map_cons, List.map_nil]); first | done | rfl | (simp only [List.length_drop, List.length_take]; rfl)) ?_; (with_reducible refine (session_Is.calls k _ _ l0 false _ ?side1 ?side2 A5.out).mono ?_); (case side1 => repeat (first | exact (Kd.C_below HR0.out HB.out) | (with_reducible refine Kd.C_alloc ?_ _) | (with_reducible refine Kd.C_drewN ?_ _) | (with_reducible refine Kd.C_drew ?_))); (case side2 => exact HC0.out); rintro e w21 ⟨rfl, hb⟩; refine ⟨_, rfl, ?_⟩; replace HB := Aside0.mk (below_step (by repeat (first | (with_reducible first | exact HB.out | apply below_alloc | apply pw_below_drewN | apply below_drew1) | exact HB.out)) hb); (try clear hb); (try clear hb2); (try clear hk); (try clear hi)))
      go_meet
      case rel => exact ⟨_, (true), (by first | rfl | (simp; done) | (simp [*]; done)), H', ⟨by first | omega | exact Nat.le_refl _⟩, ⟨by repeat (first | (with_reducible first | exact HB.out | apply below_alloc | apply pw_below_drewN | apply below_drew1) | exact HB.out)⟩⟩
  case rest =>
    clear HC4
    try clear c1
    try clear p1
    try clear q1
    try clear hx1
    try clear p2
    try clear c6
    try clear p6
    try clear c7
    try clear c7b0
    try clear c9
    try clear c9b0
    try clear c11
    try clear c11b0
    try clear c13
    try clear c13b0
    try clear c14
    try clear c15
    try clear c15b0
    try clear c15b1
    try clear c17
    try clear c17b0
    try clear c18
    try clear c18b0
    try clear p18
    try clear q18
    try clear hx18
    try clear hx188_0
    try clear hx188_1
    try clear hx188_2
    try clear hx188_3
    try clear hx188_4
    try clear hx188_5
    try clear p188
    try clear q188
    obtain ⟨kq, x45_3, rfl, HA, HJ3, HB⟩ := hcut
    cases kq with
    | zero => exact absurd HA.out (by simp [session_Open.j0])
    | succ kj3 =>
      have H := HA.out
      clear HA
      simp only [session_Open.j0] at H
      by_cases c22 : x45_3 = true
      · subst c22
        have H1 : (some (([] : List (S39)), 0, 1)) = some (r1, r2, r3) := by rw [if_pos rfl] at H; exact H
        clear H
        have H := H1
        clear H1
        simp only [Option.some.injEq, Prod.mk.injEq] at H
        obtain ⟨rfl, rfl, rfl⟩ := H
        go_wp2
        go_ret3
        exact ⟨_, by first | rfl | (simp [errW_none, errW_some] <;> rfl) | (simp [*, errW_none, errW_some] <;> rfl), by first | exact Kd.S_nil _ _ _ _ _ | exact Kd.N_nil _ _ _ _ _ | exact Kd.V_nil _ _ _ _ _ | exact Kd.Q_nil _ _ _ _ _ | exact Kd.R_nil _ _ _ _ _, by repeat (first | (with_reducible first | exact HB.out | apply below_alloc | apply pw_below_drewN | apply below_drew1) | exact HB.out)⟩
      · replace c22 := Bool.eq_false_iff.mpr c22
        subst c22
        have H1 : ((session_own.f kj3 l0).bind fun t189 => (session_Open.l0 kj3 a1 a2 t189)) = some (r1, r2, r3) := by rw [if_neg (show ¬ (false = true) by decide)] at H; exact H
        clear H
        have H := H1
        clear H1
        replace H := Option.bind_eq_some_iff.mp H
        obtain ⟨t189, A230, H⟩ := H
        replace H : (session_Open.l0 kj3 a1 a2 t189) = some (r1, r2, r3) := H
        have A23 := Aside0.mk A230
        clear A230
        have H' := Aside0.mk H
        clear H
        go_wp2_with (first | ((with_reducible refine gate_callee (f := 30) rfl ?_); refine goesL_ (some 47) rfl rfl Try.func30 (by kernel_rfl) rfl #[.slice A0 l0.length c0] rfl (by (try simp only [List.map_toArray, List.map_cons, List.map_nil]); first | done | rfl | (simp only [List.length_drop, List.length_take]; rfl)) ?_; (with_reducible refine (session_own.calls kj3 _ _ l0 t189 _ ?side1 ?side2 A23.out).mono ?_); (case side1 => repeat (first | exact (Kd.C_below HR0.out HB.out) | (with_reducible refine Kd.C_alloc ?_ _) | (with_reducible refine Kd.C_drewN ?_ _) | (with_reducible refine Kd.C_drew ?_))); (case side2 => exact HC0.out); rintro e w24 ⟨v190, rfl, ho0, hb⟩; refine ⟨_, rfl, ?_⟩; have HO191 := Aside0.mk (Kd.S_lower ho0 (below_size (by repeat (first | (with_reducible first | exact HB.out | apply below_alloc | apply pw_below_drewN | apply below_drew1) | exact HB.out)))); replace HB := Aside0.mk (below_step (by repeat (first | (with_reducible first | exact HB.out | apply below_alloc | apply pw_below_drewN | apply below_drew1) | exact HB.out)) hb); (try clear hb); (try clear hb2); (try clear hk); (try clear hi); (try clear ho0)))
        go_loopg [9] kj3 (fun kq v9 w' => ∃ (x9_2 : List (S39)), Aside0 (session_Open.l0 kq a1 a2 x9_2 = some (r1, r2, r3)) ∧ Aside0 (kq ≤ kj3) ∧ Aside0 (Kd.S k39 39 w' w.heap.size (fun _ => True) v9 x9_2) ∧ Aside0 (Below w.heap.size w w'))
        case atStart => exact ⟨(t189), H', ⟨Nat.le_refl _⟩, ⟨by (with_reducible repeat (first | apply Kd.S_alloc | apply Kd.S_drewN | apply Kd.S_drew)); exact HO191.out⟩, ⟨by repeat (first | (with_reducible first | exact HB.out | apply below_alloc | apply pw_below_drewN | apply below_drew1) | exact HB.out)⟩⟩
        case round =>
          clear H'
          try clear c1
          try clear p1
          try clear q1
          try clear hx1
          try clear c2
          try clear p2
          try clear c3
          try clear c6
          try clear p6
          try clear c7
          try clear c7b0
          try clear c9
          try clear c9b0
          try clear c11
          try clear c11b0
          try clear c13
          try clear c13b0
          try clear c14
          try clear c15
          try clear c15b0
          try clear c15b1
          try clear c17
          try clear c17b0
          try clear c18
          try clear c18b0
          try clear p18
          try clear q18
          try clear hx18
          try clear c22
          try clear hx188_0
          try clear hx188_1
          try clear hx188_2
          try clear hx188_3
          try clear hx188_4
          try clear hx188_5
          try clear p1
          try clear p18
          try clear p188
          try clear p2
          try clear p6
          try clear q1
          try clear q18
          try clear q188
          obtain ⟨x9_2, HA, HK2, HO_9, HB⟩ := hrel
          cases gk with
          | zero => exact absurd HA.out (by simp [session_Open.l0])
          | succ k2 =>
            have H := HA.out
            clear HA
            simp only [session_Open.l0] at H
            by_cases c25 : (x9_2.length : Int) ≥ a1
            · rw [if_pos c25] at H
              have c25b0 : decide (a1 ≤ (x9_2.length : Int)) = true := decide_eq_true c25
              clear c25
              by_cases c26 : 0 < (x9_2.length : Int)
              · rw [if_pos c26] at H
                have c26b0 : decide (0 < (x9_2.length : Int)) = true := decide_eq_true c26
                have c26b1 : decide (0 < x9_2.length) = true := decide_eq_true (by omega)
                clear c26
                by_cases c27 : 1 ≤ (x9_2.length : Int)
                · rw [if_pos c27] at H
                  have c27b0 := eq_true c27
                  have c27b1 : decide (1 ≤ (x9_2.length : Int)) = true := decide_eq_true c27
                  clear c27
                  obtain ⟨y193, hy193⟩ : ∃ y_ : List (S39), y_ = (x9_2.drop 1) := ⟨_, rfl⟩
                  replace H : ((session_oldestJ.f k2 ((rd_T39 x9_2 0).f0) ((rd_T39 x9_2 0).f1) ((rd_T39 x9_2 0).f2) ((rd_T39 x9_2 0).f3.f0) ((rd_T39 x9_2 0).f3.f1) ((rd_T39 x9_2 0).f3.f2) y193).bind fun bt197 => ((session_place.f x9_2 bt197.1).bind fun t204 => (if 0 ≤ t204 then (if t204 < (x9_2.length : Int) then (session_Open.l0 k2 a1 a2 (x9_2.eraseIdx (t204 : Int).toNat)) else (none)) else (none)))) = some (r1, r2, r3) := by first | (rw [hy193]; with_reducible exact H) | (have H2_ := (Option.bind_some _ _).symm.trans H; rw [hy193]; with_reducible exact H2_) | (have H2_ := (Option.bind_some _ _).symm.trans H; with_reducible exact H2_) | with_reducible exact H | (rw [hy193]; exact H) | exact H
                  have Ny193 := Aside0.mk hy193
                  clear hy193
                  replace H := Option.bind_eq_some_iff.mp H
                  obtain ⟨⟨t197, t198, t199, t200, t201, t202⟩, A280, H⟩ := H
                  replace H : ((session_place.f x9_2 t197).bind fun t204 => (if 0 ≤ t204 then (if t204 < (x9_2.length : Int) then (session_Open.l0 k2 a1 a2 (x9_2.eraseIdx (t204 : Int).toNat)) else (none)) else (none))) = some (r1, r2, r3) := H
                  have A28 := Aside0.mk A280
                  clear A280
                  replace H := Option.bind_eq_some_iff.mp H
                  obtain ⟨t204, A290, H⟩ := H
                  replace H : (if 0 ≤ t204 then (if t204 < (x9_2.length : Int) then (session_Open.l0 k2 a1 a2 (x9_2.eraseIdx (t204 : Int).toNat)) else (none)) else (none)) = some (r1, r2, r3) := H
                  have A29 := Aside0.mk A290
                  clear A290
                  by_cases c30 : 0 ≤ t204
                  · rw [if_pos c30] at H
                    have c30b0 : decide (0 ≤ t204) = true := decide_eq_true c30
                    clear c30
                    by_cases c31 : t204 < (x9_2.length : Int)
                    · rw [if_pos c31] at H
                      have c31b0 : decide (t204 < (x9_2.length : Int)) = true := decide_eq_true c31
                      clear c31
                      obtain ⟨y205, hy205⟩ : ∃ y_ : List (S39), y_ = (x9_2.eraseIdx (t204 : Int).toNat) := ⟨_, rfl⟩
                      replace H : (session_Open.l0 k2 a1 a2 y205) = some (r1, r2, r3) := by first | (rw [hy205]; with_reducible exact H) | (have H2_ := (Option.bind_some _ _).symm.trans H; rw [hy205]; with_reducible exact H2_) | (have H2_ := (Option.bind_some _ _).symm.trans H; with_reducible exact H2_) | with_reducible exact H | (rw [hy205]; exact H) | exact H
                      have Ny205 := Aside0.mk hy205
                      clear hy205
                      have H' := Aside0.mk H
                      clear H
                      obtain ⟨Ao32, co32, eo32⟩ := Kd.S_slice HO_9.out
                      subst eo32
                      try go_wp2
                      replace HO_9 := Aside0.mk (Kd.S_drew HO_9.out)
                      replace HB := Aside0.mk (below_drew1 HB.out)
                      have p192 : 0 ≤ (0 : Int) := (by omega)
                      have q192 : 0 < (x9_2.length : Int) := of_decide_eq_true (by first | (with_reducible assumption) | assumption)
                      obtain ⟨ad192, A192_5, c192_5, e192, hx192_0, hx192_1, hx192_2, hx192_3, hx192_4, hx192_5, hl192_5, hi192_5⟩ := at_T39 (Kd.S_reads' HO_9.out).2.2 0 p192 q192
                      cases e192
                      obtain ⟨ce192, hce192, hMe192, hcc192⟩ := Kd.S_get HO_9.out z39 0 p192 (by first | exact q192 | exact of_decide_eq_true (by first | (with_reducible assumption) | assumption) | (have e_ := (Kd.S_reads' HO_9.out).1; omega))
                      obtain ⟨ve192_5, rfl, ge192_5⟩ := k39_openM hMe192
                      have hv192_5 := hcc192 5 _ rfl
                      rw [add_field _ _ 5 (by omega)] at hv192_5
                      replace hv192_5 := Option.some.inj (hv192_5.symm.trans hx192_5)
                      rw [hv192_5] at ge192_5
                      have HL192_5 := Aside0.mk (show Kd.R Kd.string 9 _ _ _ _ ((rd_T39 x9_2 0).f3.f2) from ge192_5)
                      clear hv192_5 ge192_5
                      clear hcc192 hce192
                      have qi192 : (0 < x9_2.length) = True := eq_true (by omega)
                      (try rw [show ((0 : Int)).toNat = 0 from rfl] at hx192_0)
                      (try rw [show 0 * 6 = 0 from rfl] at hx192_0)
                      (try rw [Addr.add_zero'] at hx192_0)
                      (try rw [show ((0 : Int)).toNat = 0 from rfl] at hx192_1)
                      (try rw [show 0 * 6 = 0 from rfl] at hx192_1)
                      (try rw [Addr.add_zero'] at hx192_1)
                      (try rw [show ((0 : Int)).toNat = 0 from rfl] at hx192_2)
                      (try rw [show 0 * 6 = 0 from rfl] at hx192_2)
                      (try rw [Addr.add_zero'] at hx192_2)
                      (try rw [show ((0 : Int)).toNat = 0 from rfl] at hx192_3)
                      (try rw [show 0 * 6 = 0 from rfl] at hx192_3)
                      (try rw [Addr.add_zero'] at hx192_3)
                      (try rw [show ((0 : Int)).toNat = 0 from rfl] at hx192_4)
                      (try rw [show 0 * 6 = 0 from rfl] at hx192_4)
                      (try rw [Addr.add_zero'] at hx192_4)
                      (try rw [show ((0 : Int)).toNat = 0 from rfl] at hx192_5)
                      (try rw [show 0 * 6 = 0 from rfl] at hx192_5)
                      (try rw [Addr.add_zero'] at hx192_5)
                      have HR192_5 := Aside0.mk hi192_5
                      have HC192_5 := Aside0.mk hl192_5
                      clear hi192_5 hl192_5
                      replace p192 := eq_true p192
                      replace q192 := eq_true q192
                      have q34 : (1 : Int) ≤ ((x9_2.length : Int) : Int) := of_decide_eq_true (by first | (with_reducible assumption) | assumption)
                      obtain ⟨i034, hi034, _, hsz34, _⟩ := info_parts info39
                      have hroom34 : x9_2.length ≤ co32 := (Kd.S_reads' HO_9.out).2.1
                      have hC34 : Kd.C k39 _ (some ad192) x9_2.length x9_2 := (Kd.S_reads' HO_9.out).2.2
                      have hcut34 := cut_from (P := Try.prog) 22 39 .i64 Try.underlying22 hi034 6 hsz34 (some ad192) x9_2.length co32 1 (by omega) q34
                      have hr34 := Kd.C_drop (m := (1 : Int).toNat) (c := co32) hC34 (by omega) hroom34
                      obtain ⟨A34, hA34⟩ : ∃ A1, A1 = (if co32 = (1 : Int).toNat then (some ad192) else ((some ad192) : Option Addr).map (·.add ((1 : Int).toNat * 6))) := ⟨_, rfl⟩
                      obtain ⟨c34, hc34⟩ : ∃ c1, c1 = co32 - (1 : Int).toNat := ⟨_, rfl⟩
                      have hy34 : y193.length = x9_2.length - (1 : Int).toNat := (by rw [Ny193.out, List.length_drop] <;> omega)
                      rw [show (x9_2).drop (1 : Int).toNat = y193 from Ny193.out.symm] at hr34
                      replace hr34 : Kd.C k39 _ A34 y193.length y193 := (by rw [hA34]; exact hr34)
                      rw [← hy34, ← hA34, ← hc34] at hcut34
                      have HR196 := Aside0.mk hr34
                      have HC196 := Aside0.mk (show y193.length ≤ c34 from by rw [hy34, hc34]; exact Nat.sub_le_sub_right hroom34 _)
                      clear hr34 hC34 hroom34 hi034 hsz34 hc34
                      have KY34 := Aside0.mk hy34
                      have KA34 := Aside0.mk hA34
                      clear hy34 hA34
                      have KL34 := Aside0.mk (show 1 ≤ x9_2.length from by omega)
                      replace q34 := eq_true q34
                      refine start_ (n := 10) (S := fun w' => w'.cell? ad192 = some (.int .i64 ((rd_T39 x9_2 0).f0)) ∧ w'.cell? ⟨ad192.block, ad192.off + 1, none⟩ = some (.int .i64 ((rd_T39 x9_2 0).f1)) ∧ w'.cell? ⟨ad192.block, ad192.off + 2, none⟩ = some (.int .i64 ((rd_T39 x9_2 0).f2)) ∧ w'.cell? ⟨ad192.block, ad192.off + 3, none⟩ = some (.int .i64 ((rd_T39 x9_2 0).f3.f0)) ∧ w'.cell? ⟨ad192.block, ad192.off + 4, none⟩ = some (.int .i64 ((rd_T39 x9_2 0).f3.f1)) ∧ w'.cell? ⟨ad192.block, ad192.off + 5, none⟩ = some (.slice A192_5 ((rd_T39 x9_2 0).f3.f2).length c192_5)) (ds := []) #[false, false, false, false, false, false, false, false, false, false] (by kernel_rfl) rfl rfl ⟨hx192_0, hx192_1, hx192_2, hx192_3, hx192_4, hx192_5⟩ (fun hHeld => ?_); refine with_tabW session_Open.tab5 session_Open.bits5 (fun HT_ HW_ => ?_)
                      generalize wr.drew = w33 at HO_9 HB HL192_5 HR192_5 HR196 hx192_0 hx192_1 hx192_2 hx192_3 hx192_4 hx192_5 hHeld ⊢
                      have Q_ := Qs.mk (n := 10) [(0, 0, 52, 1), (0, 1, 53, 3), (0, 2, 54, 7), (0, 4, 56, 23), (0, 5, 57, 55), (2, 3, 55, 63)]
                      iterate 6 (first | (obtain ⟨q_, Q_⟩ := Qs.p Q_; refine pureQ_ q_ (v := ?_) (a' := ?_) rfl rfl (any_of HT_.out (by kernel_rfl)) (fun _ _ _ h => h) (Or.inl ⟨by rfl, ?_⟩) ?_ ?_; rotate_left; (intro w'; go_simp; (first | with_reducible rfl | (unfold Instr.field; simp only [go_sem, run_underlying Try.underlying39]; go_simp; rfl))); rotate_left; (simp only [Act.put, List.setIfInBounds_toArray, List.set_cons_zero, List.set_cons_succ, i64_w, i32_w]; rfl)) | (obtain ⟨q_, Q_⟩ := Qs.t Q_; refine takeQ_ q_ (v := ?_) (a' := ?_) rfl rfl (take_ofW HT_.out HW_.out (by kernel_rfl)) (fun _ _ _ h => h) (Or.inl ⟨by rfl, ?_⟩) hHeld ?_ ?_; rotate_left; (rintro w' ⟨s0, s1, s2, s3, s4, s5⟩; go_simp; (first | with_reducible rfl | (unfold Instr.field; simp only [go_sem, run_underlying Try.underlying39]; go_simp; rfl))); rotate_left; (simp only [Act.put, List.setIfInBounds_toArray, List.set_cons_zero, List.set_cons_succ, i64_w, i32_w]; rfl)))
                      clear Q_
                      refine one_ (i := 6) (N := some 58) (dn_ 7 10) rfl rfl (one_of HT_.out (by kernel_rfl)) (by decide) (fun K hK => ?_)
                      refine goes_ Try.func36 (by kernel_rfl) rfl #[.agg #[.int .i64 ((rd_T39 x9_2 0).f0), .int .i64 ((rd_T39 x9_2 0).f1), .int .i64 ((rd_T39 x9_2 0).f2), .int .i64 ((rd_T39 x9_2 0).f3.f0), .int .i64 ((rd_T39 x9_2 0).f3.f1), .slice A192_5 ((rd_T39 x9_2 0).f3.f2).length c192_5], .slice A34 y193.length c34] (by rfl) rfl rfl (by (try simp only [List.map_toArray, List.map_cons, List.map_nil]); first | done | rfl | (simp only [List.length_drop, List.length_take]; rfl)) ?_
                      with_reducible refine (session_oldestJ.calls k2 ((rd_T39 x9_2 0).f0) ((rd_T39 x9_2 0).f1) ((rd_T39 x9_2 0).f2) ((rd_T39 x9_2 0).f3.f0) ((rd_T39 x9_2 0).f3.f1) _ _ ((rd_T39 x9_2 0).f3.f2) _ _ y193 t197 t198 t199 t200 t201 t202 _ ?side1 ?side2 ?side3 ?side4 A28.out).mono ?_
                      (case side1 => repeat (first | exact (by repeat (first | (with_reducible exact HR192_5.out) | (with_reducible refine Kd.C_alloc ?_ _) | (with_reducible refine Kd.C_drewN ?_ _) | (with_reducible refine Kd.C_drew ?_) | exact HR192_5.out)) | (with_reducible refine Kd.C_alloc ?_ _) | (with_reducible refine Kd.C_drewN ?_ _) | (with_reducible refine Kd.C_drew ?_)))
                      (case side2 => exact HC192_5.out)
                      (case side3 => repeat (first | exact (by repeat (first | (with_reducible exact HR196.out) | (with_reducible refine Kd.C_alloc ?_ _) | (with_reducible refine Kd.C_drewN ?_ _) | (with_reducible refine Kd.C_drew ?_) | exact HR196.out)) | (with_reducible refine Kd.C_alloc ?_ _) | (with_reducible refine Kd.C_drewN ?_ _) | (with_reducible refine Kd.C_drew ?_)))
                      (case side4 => exact HC196.out)
                      rintro e w35 ⟨v203, rfl, hb⟩
                      have HS0_ := (hb.cell (World.block_lt_of_cell? _ _ (hHeld.1))).trans (hHeld.1)
                      have HS1_ := (hb.cell (World.block_lt_of_cell? _ _ (hHeld.2.1))).trans (hHeld.2.1)
                      have HS2_ := (hb.cell (World.block_lt_of_cell? _ _ (hHeld.2.2.1))).trans (hHeld.2.2.1)
                      have HS3_ := (hb.cell (World.block_lt_of_cell? _ _ (hHeld.2.2.2.1))).trans (hHeld.2.2.2.1)
                      have HS4_ := (hb.cell (World.block_lt_of_cell? _ _ (hHeld.2.2.2.2.1))).trans (hHeld.2.2.2.2.1)
                      have HS5_ := (hb.cell (World.block_lt_of_cell? _ _ (hHeld.2.2.2.2.2))).trans (hHeld.2.2.2.2.2)
                      refine ⟨_, rfl, ?_⟩
                      replace HO_9 := Aside0.mk (Kd.S_below (by (with_reducible repeat (first | apply Kd.S_alloc | apply Kd.S_drewN | apply Kd.S_drew)); exact HO_9.out) hb)
                      replace HL192_5 := Aside0.mk (Kd.R_below (by (with_reducible repeat (first | apply Kd.R_alloc | apply Kd.R_drewN | apply Kd.R_drew)); exact HL192_5.out) hb)
                      replace HR192_5 := Aside0.mk (Kd.C_below (by repeat (first | (with_reducible exact HR192_5.out) | (with_reducible refine Kd.C_alloc ?_ _) | (with_reducible refine Kd.C_drewN ?_ _) | (with_reducible refine Kd.C_drew ?_) | exact HR192_5.out)) hb)
                      replace HR196 := Aside0.mk (Kd.C_below (by repeat (first | (with_reducible exact HR196.out) | (with_reducible refine Kd.C_alloc ?_ _) | (with_reducible refine Kd.C_drewN ?_ _) | (with_reducible refine Kd.C_drew ?_) | exact HR196.out)) hb)
                      replace HB := Aside0.mk (below_step (by repeat (first | (with_reducible first | exact HB.out | apply below_alloc | apply pw_below_drewN | apply below_drew1) | exact HB.out)) hb)
                      (try clear hb)
                      (try clear hb2)
                      (try clear hk)
                      (try clear hi)
                      refine hK.out _ _ ⟨HS0_, HS1_, HS2_, HS3_, HS4_, HS5_⟩ (fun hHeld => ?_)
                      clear hK K
                      refine norm_ (a' := ?_) ?_ ?_
                      rotate_left
                      · show Act.put _ (some 58) _ = _
                        simp only [Act.put, List.setIfInBounds_toArray, List.set_cons_zero, List.set_cons_succ, i64_w, i32_w]
                        rfl
                      refine pure_ (i := 7) (N := some 59) (v := ?_) (a' := ?_) (dn_ 8 10) rfl rfl (any_of HT_.out (by kernel_rfl)) (fun _ _ _ h => h) (Or.inl ⟨by rfl, ?_⟩) ?_ ?_
                      rotate_left
                      · intro w'
                        go_simp
                        first | with_reducible rfl | (unfold Instr.field; simp only [go_sem, run_underlying Try.underlying39]; go_simp; rfl)
                      rotate_left; (simp only [Act.put, List.setIfInBounds_toArray, List.set_cons_zero, List.set_cons_succ, i64_w, i32_w]; rfl)
                      refine one_ (i := 8) (N := some 60) (dn_ 9 10) rfl rfl (one_of HT_.out (by kernel_rfl)) (by decide) (fun K hK => ?_)
                      refine goes_ Try.func32 (by kernel_rfl) rfl #[.slice (some ad192) x9_2.length co32, .int .i64 t197] (by rfl) rfl rfl (by (try simp only [List.map_toArray, List.map_cons, List.map_nil]); first | done | rfl | (simp only [List.length_drop, List.length_take]; rfl)) ?_
                      with_reducible refine (session_place.calls _ _ x9_2 t197 t204 _ ?side1 ?side2 A29.out).mono ?_
                      (case side1 => repeat (first | exact (Kd.S_reads' HO_9.out).2.2 | (with_reducible refine Kd.C_alloc ?_ _) | (with_reducible refine Kd.C_drewN ?_ _) | (with_reducible refine Kd.C_drew ?_)))
                      (case side2 => exact (Kd.S_reads' HO_9.out).2.1)
                      rintro e w36 ⟨rfl, hb⟩
                      have HS0_ := (hb.cell (World.block_lt_of_cell? _ _ (hHeld.1))).trans (hHeld.1)
                      have HS1_ := (hb.cell (World.block_lt_of_cell? _ _ (hHeld.2.1))).trans (hHeld.2.1)
                      have HS2_ := (hb.cell (World.block_lt_of_cell? _ _ (hHeld.2.2.1))).trans (hHeld.2.2.1)
                      have HS3_ := (hb.cell (World.block_lt_of_cell? _ _ (hHeld.2.2.2.1))).trans (hHeld.2.2.2.1)
                      have HS4_ := (hb.cell (World.block_lt_of_cell? _ _ (hHeld.2.2.2.2.1))).trans (hHeld.2.2.2.2.1)
                      have HS5_ := (hb.cell (World.block_lt_of_cell? _ _ (hHeld.2.2.2.2.2))).trans (hHeld.2.2.2.2.2)
                      refine ⟨_, rfl, ?_⟩
                      replace HO_9 := Aside0.mk (Kd.S_below (by (with_reducible repeat (first | apply Kd.S_alloc | apply Kd.S_drewN | apply Kd.S_drew)); exact HO_9.out) hb)
                      replace HL192_5 := Aside0.mk (Kd.R_below (by (with_reducible repeat (first | apply Kd.R_alloc | apply Kd.R_drewN | apply Kd.R_drew)); exact HL192_5.out) hb)
                      replace HR192_5 := Aside0.mk (Kd.C_below (by repeat (first | (with_reducible exact HR192_5.out) | (with_reducible refine Kd.C_alloc ?_ _) | (with_reducible refine Kd.C_drewN ?_ _) | (with_reducible refine Kd.C_drew ?_) | exact HR192_5.out)) hb)
                      replace HR196 := Aside0.mk (Kd.C_below (by repeat (first | (with_reducible exact HR196.out) | (with_reducible refine Kd.C_alloc ?_ _) | (with_reducible refine Kd.C_drewN ?_ _) | (with_reducible refine Kd.C_drew ?_) | exact HR196.out)) hb)
                      replace HB := Aside0.mk (below_step (by repeat (first | (with_reducible first | exact HB.out | apply below_alloc | apply pw_below_drewN | apply below_drew1) | exact HB.out)) hb)
                      (try clear hb)
                      (try clear hb2)
                      (try clear hk)
                      (try clear hi)
                      refine hK.out _ _ ⟨HS0_, HS1_, HS2_, HS3_, HS4_, HS5_⟩ (fun hHeld => ?_)
                      clear hK K
                      refine norm_ (a' := ?_) ?_ ?_
                      rotate_left
                      · show Act.put _ (some 60) _ = _
                        simp only [Act.put, List.setIfInBounds_toArray, List.set_cons_zero, List.set_cons_succ, i64_w, i32_w]
                        rfl
                      refine pure_ (i := 9) (N := some 10) (v := ?_) (a' := ?_) #[true, true, true, true, true, true, true, true, true, true] rfl rfl (any_of HT_.out (by kernel_rfl)) (fun _ _ _ h => h) (Or.inl ⟨by rfl, ?_⟩) ?_ ?_
                      rotate_left
                      · intro w'
                        go_simp
                        first | with_reducible rfl | (unfold Instr.field; simp only [go_sem, run_underlying Try.underlying39]; go_simp; rfl)
                      rotate_left; (simp only [Act.put, List.setIfInBounds_toArray, List.set_cons_zero, List.set_cons_succ, i64_w, i32_w]; rfl)
                      refine done_ (done_of HT_.out (by kernel_rfl)) ?_
                      try go_wp2_with (first | (go_at_call 37; have hj_ : 0 ≤ (t204 : Int) := of_decide_eq_true (by first | (with_reducible assumption) | assumption); have hl_ : (t204 : Int) < (x9_2.length : Int) := of_decide_eq_true (by first | (with_reducible assumption) | assumption); obtain ⟨gd38, cap_, ev_, _⟩ := Kd.S_form HO_9.out (by omega); injection ev_ with ea_ eb_ ec_; (try clear eb_); (try subst ec_); (first | subst ea_ | (injection ea_ with ea_; subst ea_)); refine (delete_Client_S.calls (t204 : Int) (by (with_reducible repeat (first | apply Kd.S_alloc | apply Kd.S_drewN | apply Kd.S_drew)); exact HO_9.out) hj_ hl_ (by repeat (first | (with_reducible first | exact HB.out | apply below_alloc | apply pw_below_drewN | apply below_drew1) | exact HB.out)) (below_size (by repeat (first | (with_reducible first | exact HB.out | apply below_alloc | apply pw_below_drewN | apply below_drew1) | exact HB.out)))).mono ?_; rintro e w37 ⟨rfl, ho, hb, hg⟩; rw [← Ny205.out] at ho; have hn_ : x9_2.length - 1 = y205.length := (by have := (Kd.S_reads' ho).1; omega); rw [hn_] at ho ⊢; clear hn_ hj_ hl_; replace HO_9 := Aside0.mk (ho); replace HL192_5 := Aside0.mk (Kd.R_after (v := (.slice (some ⟨gd38, 0, none⟩) x9_2.length co32)) (v1 := .slice (some ⟨gd38, 0, none⟩) y205.length co32) (ok := (fun _ => True)) (by (with_reducible repeat (first | apply Kd.R_alloc | apply Kd.R_drewN | apply Kd.R_drew)); exact HL192_5.out) hg (.inl rfl)); replace HB := Aside0.mk (hb); clear ho hb hg))
                      go_roundg k2
                      case measure => have := HJ3.out; have := HK2.out; omega
                      case rel => exact ⟨(y205), H', ⟨by have := HJ3.out; have := HK2.out; omega⟩, ⟨by (with_reducible repeat (first | apply Kd.S_alloc | apply Kd.S_drewN | apply Kd.S_drew)); exact HO_9.out⟩, ⟨by repeat (first | (with_reducible first | exact HB.out | apply below_alloc | apply pw_below_drewN | apply below_drew1) | exact HB.out)⟩⟩
                    · rw [if_neg c31] at H
                      exact absurd H (by simp)
                  · rw [if_neg c30] at H
                    exact absurd H (by simp)
                · rw [if_neg c27] at H
                  exact absurd H (by simp)
              · rw [if_neg c26] at H
                exact absurd H (by simp)
            · rw [if_neg c25] at H
              have c25b0 : decide (a1 ≤ (x9_2.length : Int)) = false := decide_eq_false c25
              clear c25
              by_cases c39 : x9_2.length < 2199023255552
              · rw [if_pos c39] at H
                have LMc39 := Aside0.mk c39
                clear c39
                obtain ⟨y208, hy208⟩ : ∃ y_ : List (S39), y_ = (x9_2 ++ [(⟨a2, 0, a2, (⟨0, 0, ([] : List ByteArray)⟩ : S26)⟩ : S39)]) := ⟨_, rfl⟩
                replace H : (some (y208, a2, 0)) = some (r1, r2, r3) := by first | (rw [hy208]; with_reducible exact H) | (have H2_ := (Option.bind_some _ _).symm.trans H; rw [hy208]; with_reducible exact H2_) | (have H2_ := (Option.bind_some _ _).symm.trans H; with_reducible exact H2_) | with_reducible exact H | (rw [hy208]; exact H) | exact H
                have Ny208 := Aside0.mk hy208
                clear hy208
                simp only [Option.some.injEq, Prod.mk.injEq] at H
                obtain ⟨rfl, rfl, rfl⟩ := H
                obtain ⟨Ao40, co40, eo40⟩ := Kd.S_slice HO_9.out
                subst eo40
                go_wp2_with (first | ((with_reducible refine gate_builtin (b := .append) (xs := #[.tmp 66, .tmp 70]) rfl ?_); (try (refine gate_guard (by rfl) ?_; dsimp only)); at_builtin; refine Kd.S_append k39 (w0 := w) w.heap.size rfl (.tmp 66) (.tmp 70) 22 39 (.agg #[(.int .i64 0), (.int .i64 0), (.int .i64 0), (.int .i64 0), (.int .i64 0), (.slice none 0 0)]) 64 rfl Try.underlying22 info39 rfl (by decide) (by omega) (.slice Ao40 x9_2.length co40) x9_2 (⟨a2, 0, a2, (⟨0, 0, ([] : List ByteArray)⟩ : S26)⟩ : S39) [.int .i64 a2, .int .i64 0, .int .i64 a2, .int .i64 0, .int .i64 0, .slice none 0 0] (fun _ => True) (fun _ => False) rfl rfl ?aP (fun k_ hk_ => hk_.elim) ?aF ?aO ?aB ?aS ?aL ?_; (case aP => exact k39_mkM _ _ _ (⟨a2, 0, a2, (⟨0, 0, ([] : List ByteArray)⟩ : S26)⟩ : S39) (Kd.R_nil _ _ _ _ _)); (case aB => exact (by repeat (first | (with_reducible first | exact HB.out | apply below_alloc | apply pw_below_drewN | apply below_drew1) | exact HB.out))); (case aF => exact (fun _ _ => trivial)); (case aO => exact (by (with_reducible repeat (first | apply Kd.S_alloc | apply Kd.S_drewN | apply Kd.S_drew)); exact Kd.S_mono HO_9.out (fun k_ hk => ⟨trivial, fun e_ => e_⟩))); (case aS => exact (below_size (by repeat (first | (with_reducible first | exact HB.out | apply below_alloc | apply pw_below_drewN | apply below_drew1) | exact HB.out)))); (case aL => have := LMc39.out; omega); intro v209 w41 ho hb hg hat; rw [← Ny208.out] at ho; replace HB := Aside0.mk (hb); have HO210 := Aside0.mk (ho); clear HO_9; clear ho hb hg hat))
                go_ret3
                exact ⟨_, by first | rfl | (simp [errW_none, errW_some] <;> rfl) | (simp [*, errW_none, errW_some] <;> rfl), by (with_reducible repeat (first | apply Kd.S_alloc | apply Kd.S_drewN | apply Kd.S_drew)); exact HO210.out, by repeat (first | (with_reducible first | exact HB.out | apply below_alloc | apply pw_below_drewN | apply below_drew1) | exact HB.out)⟩
              · rw [if_neg c39] at H
                exact absurd H (by simp)

end Go.Proofs.Ytkhdpmbjjcmooaa.F
