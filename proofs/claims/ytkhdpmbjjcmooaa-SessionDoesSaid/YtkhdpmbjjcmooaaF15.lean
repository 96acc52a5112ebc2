-- Written by a program of this session (xprint.py), out of the translation and of contracts proved by hand.
import Derived.Test.YtkhdpmbjjcmooaaF0
import Derived.Test.YtkhdpmbjjcmooaaF2
import Derived.Test.YtkhdpmbjjcmooaaF3
import Derived.Test.YtkhdpmbjjcmooaaF4
import Derived.Test.YtkhdpmbjjcmooaaF13
namespace Go.Proofs.Ytkhdpmbjjcmooaa.F
open Go.RowKit Go.Proofs.YtkhdpmbjjcmooaaV.PrintWords Go.Proofs.YtkhdpmbjjcmooaaV.PrintLast Go.Proofs.YtkhdpmbjjcmooaaV.PrintMore
attribute [local go_sem] max2_int min2_int max_two min_two max_three min_three max_four min_four   -- for this text's walks alone
set_option linter.unusedVariables false
set_option linter.unusedSimpArgs false

/-! ### session_Put: function 10 -/
mutual
def session_Put.j0 : Nat → List (S39) → Int → Int → Int → Bool → Int → Int → List ByteArray → Option ((List (S39)) × Int)
  | 0, _, _, _, _, _, _, _, _ => none
  | k + 1, x0, x1, x2, x3, x35, x186000, x186001, x186002 => if x35 = true then (some (([] : List (S39)), 1)) else ((session_Check.f k x0 x1 x2).bind fun bt188 => (if bt188.2.2.2 = 3 then (some (([] : List (S39)), 181)) else (if bt188.2.2.2 = 2 then (session_Put.j1 k x0 x1 x2 x3 (bt188.2.2.2 == 2) x186000 x186001 x186002) else (session_Put.j1 k x0 x1 x2 x3 (bt188.2.2.2 == 1) x186000 x186001 x186002))))
def session_Put.j1 : Nat → List (S39) → Int → Int → Int → Bool → Int → Int → List ByteArray → Option ((List (S39)) × Int)
  | 0, _, _, _, _, _, _, _, _ => none
  | k + 1, x0, x1, x2, x3, x46, x186000, x186001, x186002 => if x46 = true then (some (([] : List (S39)), 180)) else ((session_own.f k x0).bind fun t195 => ((session_place.f t195 x1).bind fun t198 => ((session_client_told.f x186000 x186001 x186002 x1 x2 x3).bind fun bt199 => (if 0 ≤ t198 then (if t198 < (t195.length : Int) then (some ((t195.set (t198 : Int).toNat (⟨bt199.1, bt199.2.1, bt199.2.2.1, (⟨bt199.2.2.2.1, bt199.2.2.2.2.1, bt199.2.2.2.2.2⟩ : S26)⟩ : S39)), 0)) else (none)) else (none)))))
end
def session_Put.f (k : Nat) (l0 : List (S39)) (a1 : Int) (a2 : Int) (a3 : Int) (a4_0 : Int) (a4_1 : Int) (l4_2 : List ByteArray) : Option ((List (S39)) × Int) := (session_Is.f k l0).bind fun t186 => (if t186 = true then (if a3 < 0 then (session_Put.j0 k l0 a1 a2 a3 true a4_0 a4_1 l4_2) else (if a3 > 1000000000 then (session_Put.j0 k l0 a1 a2 a3 true a4_0 a4_1 l4_2) else (if a2 > 1000000000 then (session_Put.j0 k l0 a1 a2 a3 true a4_0 a4_1 l4_2) else ((session_reply_may.f a4_0 a4_1 l4_2).bind fun t187 => (session_Put.j0 k l0 a1 a2 a3 (!t187) a4_0 a4_1 l4_2))))) else (session_Put.j0 k l0 a1 a2 a3 true a4_0 a4_1 l4_2))
theorem session_Put.mono_l : ∀ k, (∀ y0 y1 y2 y3 y4 y5 y6 y7, LeO (session_Put.j0 k y0 y1 y2 y3 y4 y5 y6 y7) (session_Put.j0 (k + 1) y0 y1 y2 y3 y4 y5 y6 y7)) ∧ (∀ y0 y1 y2 y3 y4 y5 y6 y7, LeO (session_Put.j1 k y0 y1 y2 y3 y4 y5 y6 y7) (session_Put.j1 (k + 1) y0 y1 y2 y3 y4 y5 y6 y7))
  | 0 => ⟨fun _ _ _ _ _ _ _ _ r h => by simp [session_Put.j0] at h, fun _ _ _ _ _ _ _ _ r h => by simp [session_Put.j1] at h⟩
  | k + 1 => by
    obtain ⟨ih0, ih1⟩ := session_Put.mono_l k
    refine ⟨?_, ?_⟩
    · intro y0 y1 y2 y3 y4 y5 y6 y7
      unfold session_Put.j0
      repeat' first
      | (with_reducible exact ih0 _ _ _ _ _ _ _ _)
      | (with_reducible exact ih1 _ _ _ _ _ _ _ _)
      | (with_reducible exact session_Check.mono _ _ _ _)
      | (with_reducible exact session_Is.mono _ _)
      | (with_reducible exact session_own.mono _ _)
      | (with_reducible exact LeO.refl _)
      | (with_reducible exact LeO.none _)
      | (with_reducible refine LeO.ite ?_ ?_)
      | (with_reducible refine LeO.bind ?_ (fun _ => ?_))
      | exact ih0 _ _ _ _ _ _ _ _
      | exact ih1 _ _ _ _ _ _ _ _
      | exact session_Check.mono _ _ _ _
      | exact session_Is.mono _ _
      | exact session_own.mono _ _
      | exact LeO.none _
      | refine LeO.ite ?_ ?_
      | refine LeO.bind ?_ (fun _ => ?_)
    · intro y0 y1 y2 y3 y4 y5 y6 y7
      unfold session_Put.j1
      repeat' first
      | (with_reducible exact ih0 _ _ _ _ _ _ _ _)
      | (with_reducible exact ih1 _ _ _ _ _ _ _ _)
      | (with_reducible exact session_Check.mono _ _ _ _)
      | (with_reducible exact session_Is.mono _ _)
      | (with_reducible exact session_own.mono _ _)
      | (with_reducible exact LeO.refl _)
      | (with_reducible exact LeO.none _)
      | (with_reducible refine LeO.ite ?_ ?_)
      | (with_reducible refine LeO.bind ?_ (fun _ => ?_))
      | exact ih0 _ _ _ _ _ _ _ _
      | exact ih1 _ _ _ _ _ _ _ _
      | exact session_Check.mono _ _ _ _
      | exact session_Is.mono _ _
      | exact session_own.mono _ _
      | exact LeO.none _
      | refine LeO.ite ?_ ?_
      | refine LeO.bind ?_ (fun _ => ?_)
theorem session_Put.mono : ∀ a0 a1 a2 a3 a4 a5 a6 k, LeO (session_Put.f k a0 a1 a2 a3 a4 a5 a6) (session_Put.f (k + 1) a0 a1 a2 a3 a4 a5 a6) := by
  intro a0 a1 a2 a3 a4 a5 a6 k
  obtain ⟨ih0, ih1⟩ := session_Put.mono_l k
  unfold session_Put.f
  repeat' first
      | (with_reducible exact ih0 _ _ _ _ _ _ _ _)
      | (with_reducible exact ih1 _ _ _ _ _ _ _ _)
      | (with_reducible exact session_Check.mono _ _ _ _)
      | (with_reducible exact session_Is.mono _ _)
      | (with_reducible exact session_own.mono _ _)
      | (with_reducible exact LeO.refl _)
      | (with_reducible exact LeO.none _)
      | (with_reducible refine LeO.ite ?_ ?_)
      | (with_reducible refine LeO.bind ?_ (fun _ => ?_))
      | exact ih0 _ _ _ _ _ _ _ _
      | exact ih1 _ _ _ _ _ _ _ _
      | exact session_Check.mono _ _ _ _
      | exact session_Is.mono _ _
      | exact session_own.mono _ _
      | exact LeO.none _
      | refine LeO.ite ?_ ?_
      | refine LeO.bind ?_ (fun _ => ?_)
def session_Put.T11 : Bool × List (List Nat × List Nat) := (true, [([], []), ([], []), ([], []), ([1, 2], [1, 2]), ([], []), ([4], [4]), ([], []), ([], []), ([], []), ([5, 6, 7, 8], [5, 6, 7, 8]), ([9, 3], [9]), ([0, 3, 0, 1, 2, 3, 4, 5, 6, 7, 8, 9, 10], [0, 3]), ([11, 10, 10, 0, 1, 2, 3, 4, 5, 6, 7, 8, 9, 10], [10, 11])])
def session_Put.B11 : List Nat := [0, 0, 0, 6, 0, 16, 0, 0, 0, 496, 1022, 2047, 4095]
theorem session_Put.tab11 : rtab .any (opsOf Try.f10 11) = session_Put.T11 := by kernel_rfl
theorem session_Put.bits11 : waitsOk session_Put.T11.2 session_Put.B11 = true := by kernel_rfl
set_option maxHeartbeats 8000000 in
set_option maxRecDepth 100000 in
theorem session_Put.calls (k : Nat) (A0 : Option Addr) (c0 : Nat) (l0 : List (S39)) (a1 : Int) (a2 : Int) (a3 : Int) (a4_0 : Int) (a4_1 : Int) (A4_2 : Option Addr) (c4_2 : Nat) (l4_2 : List ByteArray) (r1 : List (S39)) (r2 : Int) (w : World) (hr0 : Kd.C k39 w A0 l0.length l0) (hc0 : l0.length ≤ c0) (hr4_2 : Kd.C Kd.string w A4_2 l4_2.length l4_2) (hc4_2 : l4_2.length ≤ c4_2) (h : session_Put.f k l0 a1 a2 a3 a4_0 a4_1 l4_2 = some (r1, r2)) :
    Calls Try.prog 10 #[.slice A0 l0.length c0, .int .i64 a1, .int .i64 a2, .int .i64 a3, .agg #[.int .i64 a4_0, .int .i64 a4_1, .slice A4_2 l4_2.length c4_2]] w fun e w' => ∃ v0_ : Value, e = .returned (.tuple #[v0_, .int .i64 r2]) ∧ Kd.S k39 39 w' w.heap.size (fun _ => True) v0_ r1 ∧ Below w.heap.size w w' := by
  have hu26 := Try.underlying26
  have hu57 := Try.underlying57
  have hu59 := Try.underlying59
  have hu39 := Try.underlying39
  have HR0 := Aside0.mk hr0
  have HC0 := Aside0.mk hc0
  clear hr0 hc0
  have HR4_2 := Aside0.mk hr4_2
  have HC4_2 := Aside0.mk hc4_2
  clear hr4_2 hc4_2
  have HB := Aside0.mk (Below.refl w.heap.size w)
  have H : ((session_Is.f k l0).bind fun t186 => (if t186 = true then (if a3 < 0 then (session_Put.j0 k l0 a1 a2 a3 true a4_0 a4_1 l4_2) else (if a3 > 1000000000 then (session_Put.j0 k l0 a1 a2 a3 true a4_0 a4_1 l4_2) else (if a2 > 1000000000 then (session_Put.j0 k l0 a1 a2 a3 true a4_0 a4_1 l4_2) else ((session_reply_may.f a4_0 a4_1 l4_2).bind fun t187 => (session_Put.j0 k l0 a1 a2 a3 (!t187) a4_0 a4_1 l4_2))))) else (session_Put.j0 k l0 a1 a2 a3 true a4_0 a4_1 l4_2))) = some (r1, r2) := h
  clear h
  have HC6 := Aside0.mk H
  clear H
  go_enter Try.func10, Try.ntmps10
  go_upto_region 1 with (first | ((with_reducible refine gate_dst (N := 9) rfl ?_); refine box_event ?hg (N := 9) ?hd (cs := #[.int .i64 a4_0, .int .i64 a4_1, .slice A4_2 l4_2.length c4_2]) (t := 26) ?hr ?_; (case hd => rfl); (case hg => rfl); (case hr => first | (go_simp; done) | (go_simp; rfl)); intro gb185 hg w7 hbox hb; have BK185 := Aside0.mk (hbox); have GW185 := Aside0.mk ((by rw [hg]; exact (below_size (by repeat (first | (with_reducible first | exact HB.out | apply below_alloc | apply pw_below_drewN | apply below_drew1) | exact HB.out))) : w.heap.size ≤ gb185)); have GE185 := Aside0.mk ((by rw [hg]; exact (below_size (by repeat (first | (with_reducible first | exact HB.out | apply below_alloc | apply pw_below_drewN | apply below_drew1) | exact HB.out))) : w.heap.size ≤ gb185)); replace HB := Aside0.mk (below_step (by repeat (first | (with_reducible first | exact HB.out | apply below_alloc | apply pw_below_drewN | apply below_drew1) | exact HB.out)) hb); clear hb hbox hg))
  (try simp only [Act.put, List.setIfInBounds_toArray, List.set_cons_zero, List.set_cons_succ])
  go_cut [35] (fun v35 wc => ∃ (kq : Nat) (x35_5 : Bool), v35 = .bool x35_5 ∧ Aside0 (session_Put.j0 kq l0 a1 a2 a3 x35_5 a4_0 a4_1 l4_2 = some (r1, r2)) ∧ Aside0 (kq ≤ k) ∧ Aside0 (wc.heap[gb185]? = some (.cells #[.int .i64 a4_0, .int .i64 a4_1, (.slice A4_2 l4_2.length c4_2)] 26 (0, 0))) ∧ Aside0 (Below w.heap.size w wc))
  case first =>
    have H := HC6.out
    clear HC6
    replace H := Option.bind_eq_some_iff.mp H
    obtain ⟨t186, A80, H⟩ := H
    replace H : (if t186 = true then (if a3 < 0 then (session_Put.j0 k l0 a1 a2 a3 true a4_0 a4_1 l4_2) else (if a3 > 1000000000 then (session_Put.j0 k l0 a1 a2 a3 true a4_0 a4_1 l4_2) else (if a2 > 1000000000 then (session_Put.j0 k l0 a1 a2 a3 true a4_0 a4_1 l4_2) else ((session_reply_may.f a4_0 a4_1 l4_2).bind fun t187 => (session_Put.j0 k l0 a1 a2 a3 (!t187) a4_0 a4_1 l4_2))))) else (session_Put.j0 k l0 a1 a2 a3 true a4_0 a4_1 l4_2)) = some (r1, r2) := H
    have A8 := Aside0.mk A80
    clear A80
    by_cases c9 : t186 = true
    · subst c9
      have H1 : (if a3 < 0 then (session_Put.j0 k l0 a1 a2 a3 true a4_0 a4_1 l4_2) else (if a3 > 1000000000 then (session_Put.j0 k l0 a1 a2 a3 true a4_0 a4_1 l4_2) else (if a2 > 1000000000 then (session_Put.j0 k l0 a1 a2 a3 true a4_0 a4_1 l4_2) else ((session_reply_may.f a4_0 a4_1 l4_2).bind fun t187 => (session_Put.j0 k l0 a1 a2 a3 (!t187) a4_0 a4_1 l4_2))))) = some (r1, r2) := by rw [if_pos rfl] at H; exact H
      clear H
      have H := H1
      clear H1
      by_cases c10 : a3 < 0
      · rw [if_pos c10] at H
        have c10b0 : decide (a3 < 0) = true := decide_eq_true c10
        clear c10
        (first | rw [c10b0] | (simp only [i64_w, i32_w]; rw [c10b0]) | skip)
        have H' := Aside0.mk H
        clear H
        go_wp2_with (first | ((with_reducible refine gate_callee (f := 14) rfl ?_); refine goesL_ (some 16) rfl rfl Try.func14 (by kernel_rfl) rfl #[.slice A0 l0.length c0] rfl (by (try simp only [List.map_toArray, List.map_cons, List.map_nil]); first | done | rfl | (simp only [List.length_drop, List.length_take]; rfl)) ?_; (with_reducible refine (session_Is.calls k _ _ l0 true _ ?side1 ?side2 A8.out).mono ?_); (case side1 => repeat (first | exact (Kd.C_below HR0.out HB.out) | (with_reducible refine Kd.C_alloc ?_ _) | (with_reducible refine Kd.C_drewN ?_ _) | (with_reducible refine Kd.C_drew ?_))); (case side2 => exact HC0.out); rintro e w11 ⟨rfl, hb⟩; refine ⟨_, rfl, ?_⟩; replace BK185 := Aside0.mk (blk_below (g := gb185) (o := .cells #[.int .i64 a4_0, .int .i64 a4_1, .slice A4_2 l4_2.length c4_2] 26 (0, 0)) (by (with_reducible repeat (first | refine blk_drewN ?_ _ | refine blk_drew ?_ | refine blk_alloc ?_ _)); exact BK185.out) hb); replace HB := Aside0.mk (below_step (by repeat (first | (with_reducible first | exact HB.out | apply below_alloc | apply pw_below_drewN | apply below_drew1 | refine below_set ?_ GE185.out) | exact HB.out)) hb); (try clear hb); (try clear hb2); (try clear hk); (try clear hi)))
        go_meet
        case rel => exact ⟨_, (true), (by first | rfl | (simp; done) | (simp [*]; done)), H', ⟨by first | omega | exact Nat.le_refl _⟩, ⟨by (with_reducible repeat (first | refine blk_drewN ?_ _ | refine blk_drew ?_ | refine blk_alloc ?_ _)); exact BK185.out⟩, ⟨by repeat (first | (with_reducible first | exact HB.out | apply below_alloc | apply pw_below_drewN | apply below_drew1 | refine below_set ?_ GE185.out) | exact HB.out)⟩⟩
      · rw [if_neg c10] at H
        have c10b0 : decide (a3 < 0) = false := decide_eq_false c10
        clear c10
        (first | rw [c10b0] | (simp only [i64_w, i32_w]; rw [c10b0]) | skip)
        by_cases c12 : a3 > 1000000000
        · rw [if_pos c12] at H
          have c12b0 : decide (1000000000 < a3) = true := decide_eq_true c12
          clear c12
          have H' := Aside0.mk H
          clear H
          go_wp2_with (first | ((with_reducible refine gate_callee (f := 14) rfl ?_); refine goesL_ (some 16) rfl rfl Try.func14 (by kernel_rfl) rfl #[.slice A0 l0.length c0] rfl (by (try simp only [List.map_toArray, List.map_cons, List.map_nil]); first | done | rfl | (simp only [List.length_drop, List.length_take]; rfl)) ?_; (with_reducible refine (session_Is.calls k _ _ l0 true _ ?side1 ?side2 A8.out).mono ?_); (case side1 => repeat (first | exact (Kd.C_below HR0.out HB.out) | (with_reducible refine Kd.C_alloc ?_ _) | (with_reducible refine Kd.C_drewN ?_ _) | (with_reducible refine Kd.C_drew ?_))); (case side2 => exact HC0.out); rintro e w13 ⟨rfl, hb⟩; refine ⟨_, rfl, ?_⟩; replace BK185 := Aside0.mk (blk_below (g := gb185) (o := .cells #[.int .i64 a4_0, .int .i64 a4_1, .slice A4_2 l4_2.length c4_2] 26 (0, 0)) (by (with_reducible repeat (first | refine blk_drewN ?_ _ | refine blk_drew ?_ | refine blk_alloc ?_ _)); exact BK185.out) hb); replace HB := Aside0.mk (below_step (by repeat (first | (with_reducible first | exact HB.out | apply below_alloc | apply pw_below_drewN | apply below_drew1 | refine below_set ?_ GE185.out) | exact HB.out)) hb); (try clear hb); (try clear hb2); (try clear hk); (try clear hi)))
          go_meet
          case rel => exact ⟨_, (true), (by first | rfl | (simp; done) | (simp [*]; done)), H', ⟨by first | omega | exact Nat.le_refl _⟩, ⟨by (with_reducible repeat (first | refine blk_drewN ?_ _ | refine blk_drew ?_ | refine blk_alloc ?_ _)); exact BK185.out⟩, ⟨by repeat (first | (with_reducible first | exact HB.out | apply below_alloc | apply pw_below_drewN | apply below_drew1 | refine below_set ?_ GE185.out) | exact HB.out)⟩⟩
        · rw [if_neg c12] at H
          have c12b0 : decide (1000000000 < a3) = false := decide_eq_false c12
          clear c12
          by_cases c14 : a2 > 1000000000
          · rw [if_pos c14] at H
            have c14b0 : decide (1000000000 < a2) = true := decide_eq_true c14
            clear c14
            have H' := Aside0.mk H
            clear H
            go_wp2_with (first | ((with_reducible refine gate_callee (f := 14) rfl ?_); refine goesL_ (some 16) rfl rfl Try.func14 (by kernel_rfl) rfl #[.slice A0 l0.length c0] rfl (by (try simp only [List.map_toArray, List.map_cons, List.map_nil]); first | done | rfl | (simp only [List.length_drop, List.length_take]; rfl)) ?_; (with_reducible refine (session_Is.calls k _ _ l0 true _ ?side1 ?side2 A8.out).mono ?_); (case side1 => repeat (first | exact (Kd.C_below HR0.out HB.out) | (with_reducible refine Kd.C_alloc ?_ _) | (with_reducible refine Kd.C_drewN ?_ _) | (with_reducible refine Kd.C_drew ?_))); (case side2 => exact HC0.out); rintro e w15 ⟨rfl, hb⟩; refine ⟨_, rfl, ?_⟩; replace BK185 := Aside0.mk (blk_below (g := gb185) (o := .cells #[.int .i64 a4_0, .int .i64 a4_1, .slice A4_2 l4_2.length c4_2] 26 (0, 0)) (by (with_reducible repeat (first | refine blk_drewN ?_ _ | refine blk_drew ?_ | refine blk_alloc ?_ _)); exact BK185.out) hb); replace HB := Aside0.mk (below_step (by repeat (first | (with_reducible first | exact HB.out | apply below_alloc | apply pw_below_drewN | apply below_drew1 | refine below_set ?_ GE185.out) | exact HB.out)) hb); (try clear hb); (try clear hb2); (try clear hk); (try clear hi)))
            go_meet
            case rel => exact ⟨_, (true), (by first | rfl | (simp; done) | (simp [*]; done)), H', ⟨by first | omega | exact Nat.le_refl _⟩, ⟨by (with_reducible repeat (first | refine blk_drewN ?_ _ | refine blk_drew ?_ | refine blk_alloc ?_ _)); exact BK185.out⟩, ⟨by repeat (first | (with_reducible first | exact HB.out | apply below_alloc | apply pw_below_drewN | apply below_drew1 | refine below_set ?_ GE185.out) | exact HB.out)⟩⟩
          · rw [if_neg c14] at H
            have c14b0 : decide (1000000000 < a2) = false := decide_eq_false c14
            clear c14
            replace H := Option.bind_eq_some_iff.mp H
            obtain ⟨t187, A160, H⟩ := H
            replace H : (session_Put.j0 k l0 a1 a2 a3 (!t187) a4_0 a4_1 l4_2) = some (r1, r2) := H
            have A16 := Aside0.mk A160
            clear A160
            have H' := Aside0.mk H
            clear H
            go_wp2_with (first | ((with_reducible refine gate_callee (f := 14) rfl ?_); refine goesL_ (some 16) rfl rfl Try.func14 (by kernel_rfl) rfl #[.slice A0 l0.length c0] rfl (by (try simp only [List.map_toArray, List.map_cons, List.map_nil]); first | done | rfl | (simp only [List.length_drop, List.length_take]; rfl)) ?_; (with_reducible refine (session_Is.calls k _ _ l0 true _ ?side1 ?side2 A8.out).mono ?_); (case side1 => repeat (first | exact (Kd.C_below HR0.out HB.out) | (with_reducible refine Kd.C_alloc ?_ _) | (with_reducible refine Kd.C_drewN ?_ _) | (with_reducible refine Kd.C_drew ?_))); (case side2 => exact HC0.out); rintro e w17 ⟨rfl, hb⟩; refine ⟨_, rfl, ?_⟩; replace BK185 := Aside0.mk (blk_below (g := gb185) (o := .cells #[.int .i64 a4_0, .int .i64 a4_1, .slice A4_2 l4_2.length c4_2] 26 (0, 0)) (by (with_reducible repeat (first | refine blk_drewN ?_ _ | refine blk_drew ?_ | refine blk_alloc ?_ _)); exact BK185.out) hb); replace HB := Aside0.mk (below_step (by repeat (first | (with_reducible first | exact HB.out | apply below_alloc | apply pw_below_drewN | apply below_drew1 | refine below_set ?_ GE185.out) | exact HB.out)) hb); (try clear hb); (try clear hb2); (try clear hk); (try clear hi); have hcz18_0 : w17.cell? ⟨gb185, 0, none⟩ = some (.int .i64 a4_0) := (blk_cell BK185.out 0).trans rfl; have hcz18_1 : w17.cell? ⟨gb185, 1, none⟩ = some (.int .i64 a4_1) := (blk_cell BK185.out 1).trans rfl; have hcz18_2 : w17.cell? ⟨gb185, 2, none⟩ = some (.slice A4_2 l4_2.length c4_2) := (blk_cell BK185.out 2).trans rfl; have hfz18_0 := blk_frozen BK185.out 0; have hfz18_1 := blk_frozen BK185.out 1; have hfz18_2 := blk_frozen BK185.out 2) | (go_at_call 29; (with_reducible refine (session_reply_may.calls a4_0 a4_1 _ _ l4_2 t187 _ ?side1 ?side2 A16.out).mono ?_); (case side1 => repeat (first | exact (Kd.C_below HR4_2.out HB.out) | (with_reducible refine Kd.C_alloc ?_ _) | (with_reducible refine Kd.C_drewN ?_ _) | (with_reducible refine Kd.C_drew ?_))); (case side2 => exact HC4_2.out); rintro e w19 ⟨rfl, hb⟩; replace BK185 := Aside0.mk (blk_below (g := gb185) (o := .cells #[.int .i64 a4_0, .int .i64 a4_1, .slice A4_2 l4_2.length c4_2] 26 (0, 0)) (by (with_reducible repeat (first | refine blk_drewN ?_ _ | refine blk_drew ?_ | refine blk_alloc ?_ _)); exact BK185.out) hb); replace HB := Aside0.mk (below_step (by repeat (first | (with_reducible first | exact HB.out | apply below_alloc | apply pw_below_drewN | apply below_drew1 | refine below_set ?_ GE185.out) | exact HB.out)) hb); (try clear hb); (try clear hb2); (try clear hk); (try clear hi)))
            go_meet
            case rel => exact ⟨_, (!t187), (by first | rfl | (simp; done) | (simp [*]; done)), H', ⟨by first | omega | exact Nat.le_refl _⟩, ⟨by (with_reducible repeat (first | refine blk_drewN ?_ _ | refine blk_drew ?_ | refine blk_alloc ?_ _)); exact BK185.out⟩, ⟨by repeat (first | (with_reducible first | exact HB.out | apply below_alloc | apply pw_below_drewN | apply below_drew1 | refine below_set ?_ GE185.out) | exact HB.out)⟩⟩
    · replace c9 := Bool.eq_false_iff.mpr c9
      subst c9
      have H1 : (session_Put.j0 k l0 a1 a2 a3 true a4_0 a4_1 l4_2) = some (r1, r2) := by rw [if_neg (show ¬ (false = true) by decide)] at H; exact H
      clear H
      have H := H1
      clear H1
      have H' := Aside0.mk H
      clear H
      go_wp2_with (first | ((with_reducible refine gate_callee (f := 14) rfl ?_); refine goesL_ (some 16) rfl rfl Try.func14 (by kernel_rfl) rfl #[.slice A0 l0.length c0] rfl (by (try simp only [List.map_toArray, List.map_cons, List.map_nil]); first | done | rfl | (simp only [List.length_drop, List.length_take]; rfl)) ?_; (with_reducible refine (session_Is.calls k _ _ l0 false _ ?side1 ?side2 A8.out).mono ?_); (case side1 => repeat (first | exact (Kd.C_below HR0.out HB.out) | (with_reducible refine Kd.C_alloc ?_ _) | (with_reducible refine Kd.C_drewN ?_ _) | (with_reducible refine Kd.C_drew ?_))); (case side2 => exact HC0.out); rintro e w20 ⟨rfl, hb⟩; refine ⟨_, rfl, ?_⟩; replace BK185 := Aside0.mk (blk_below (g := gb185) (o := .cells #[.int .i64 a4_0, .int .i64 a4_1, .slice A4_2 l4_2.length c4_2] 26 (0, 0)) (by (with_reducible repeat (first | refine blk_drewN ?_ _ | refine blk_drew ?_ | refine blk_alloc ?_ _)); exact BK185.out) hb); replace HB := Aside0.mk (below_step (by repeat (first | (with_reducible first | exact HB.out | apply below_alloc | apply pw_below_drewN | apply below_drew1 | refine below_set ?_ GE185.out) | exact HB.out)) hb); (try clear hb); (try clear hb2); (try clear hk); (try clear hi)))
      go_meet
      case rel => exact ⟨_, (true), (by first | rfl | (simp; done) | (simp [*]; done)), H', ⟨by first | omega | exact Nat.le_refl _⟩, ⟨by (with_reducible repeat (first | refine blk_drewN ?_ _ | refine blk_drew ?_ | refine blk_alloc ?_ _)); exact BK185.out⟩, ⟨by repeat (first | (with_reducible first | exact HB.out | apply below_alloc | apply pw_below_drewN | apply below_drew1 | refine below_set ?_ GE185.out) | exact HB.out)⟩⟩
  case rest =>
    clear HC6
    try clear c1
    try clear p2
    try clear c4
    try clear c9
    try clear c10
    try clear c10b0
    try clear c12
    try clear c12b0
    try clear c14
    try clear c14b0
    try clear hcz18_0
    try clear hcz18_1
    try clear hcz18_2
    try clear hfz18_0
    try clear hfz18_1
    try clear hfz18_2
    obtain ⟨kq, x35_5, rfl, HA, HJ5, BK185, HB⟩ := hcut
    cases kq with
    | zero => exact absurd HA.out (by simp [session_Put.j0])
    | succ kj5 =>
      have H := HA.out
      clear HA
      simp only [session_Put.j0] at H
      by_cases c21 : x35_5 = true
      · subst c21
        have H1 : (some (([] : List (S39)), 1)) = some (r1, r2) := by rw [if_pos rfl] at H; exact H
        clear H
        have H := H1
        clear H1
        simp only [Option.some.injEq, Prod.mk.injEq] at H
        obtain ⟨rfl, rfl⟩ := H
        go_wp2
        go_ret2
        exact ⟨_, by first | rfl | (simp [errW_none, errW_some] <;> rfl) | (simp [*, errW_none, errW_some] <;> rfl), by first | exact Kd.S_nil _ _ _ _ _ | exact Kd.N_nil _ _ _ _ _ | exact Kd.V_nil _ _ _ _ _ | exact Kd.Q_nil _ _ _ _ _ | exact Kd.R_nil _ _ _ _ _, by repeat (first | (with_reducible first | exact HB.out | apply below_alloc | apply pw_below_drewN | apply below_drew1 | refine below_set ?_ GE185.out) | exact HB.out)⟩
      · replace c21 := Bool.eq_false_iff.mpr c21
        subst c21
        have H1 : ((session_Check.f kj5 l0 a1 a2).bind fun bt188 => (if bt188.2.2.2 = 3 then (some (([] : List (S39)), 181)) else (if bt188.2.2.2 = 2 then (session_Put.j1 kj5 l0 a1 a2 a3 (bt188.2.2.2 == 2) a4_0 a4_1 l4_2) else (session_Put.j1 kj5 l0 a1 a2 a3 (bt188.2.2.2 == 1) a4_0 a4_1 l4_2)))) = some (r1, r2) := by rw [if_neg (show ¬ (false = true) by decide)] at H; exact H
        clear H
        have H := H1
        clear H1
        replace H := Option.bind_eq_some_iff.mp H
        obtain ⟨⟨t188, t189, t190, t193⟩, A220, H⟩ := H
        replace H : (if t193 = 3 then (some (([] : List (S39)), 181)) else (if t193 = 2 then (session_Put.j1 kj5 l0 a1 a2 a3 (t193 == 2) a4_0 a4_1 l4_2) else (session_Put.j1 kj5 l0 a1 a2 a3 (t193 == 1) a4_0 a4_1 l4_2))) = some (r1, r2) := H
        have A22 := Aside0.mk A220
        clear A220
        by_cases c23 : t193 = 3
        · rw [if_pos c23] at H
          have c23b0 : (t193 == 3) = true := beq_iff_eq.mpr c23
          have c23b1 : (t193 != 3) = false := bne_eq_false_iff_eq.mpr c23
          clear c23
          simp only [Option.some.injEq, Prod.mk.injEq] at H
          obtain ⟨rfl, rfl⟩ := H
          go_wp2_with (first | ((with_reducible refine gate_callee (f := 12) rfl ?_); refine goesL_ (some 40) rfl rfl Try.func12 (by kernel_rfl) rfl #[.slice A0 l0.length c0, .int .i64 a1, .int .i64 a2] rfl (by (try simp only [List.map_toArray, List.map_cons, List.map_nil]); first | done | rfl | (simp only [List.length_drop, List.length_take]; rfl)) ?_; (with_reducible refine (session_Check.calls kj5 _ _ l0 a1 a2 t188 t189 t190 t193 _ ?side1 ?side2 A22.out).mono ?_); (case side1 => repeat (first | exact (Kd.C_below HR0.out HB.out) | (with_reducible refine Kd.C_alloc ?_ _) | (with_reducible refine Kd.C_drewN ?_ _) | (with_reducible refine Kd.C_drew ?_))); (case side2 => exact HC0.out); rintro e w24 ⟨v191, rfl, ho0, hb⟩; refine ⟨_, rfl, ?_⟩; have HO192 := Aside0.mk (Kd.R_lower (Kd.R_newM (M := fun k_ => (w.heap.size ≤ k_)) ho0 (below_size (by repeat (first | (with_reducible first | exact HB.out | apply below_alloc | apply pw_below_drewN | apply below_drew1 | refine below_set ?_ GE185.out) | exact HB.out))) (fun k_ h_ => h_)) (below_size (by repeat (first | (with_reducible first | exact HB.out | apply below_alloc | apply pw_below_drewN | apply below_drew1 | refine below_set ?_ GE185.out) | exact HB.out)))); replace BK185 := Aside0.mk (blk_below (g := gb185) (o := .cells #[.int .i64 a4_0, .int .i64 a4_1, .slice A4_2 l4_2.length c4_2] 26 (0, 0)) (by (with_reducible repeat (first | refine blk_drewN ?_ _ | refine blk_drew ?_ | refine blk_alloc ?_ _)); exact BK185.out) hb); replace HB := Aside0.mk (below_step (by repeat (first | (with_reducible first | exact HB.out | apply below_alloc | apply pw_below_drewN | apply below_drew1 | refine below_set ?_ GE185.out) | exact HB.out)) hb); (try clear hb); (try clear hb2); (try clear hk); (try clear hi); (try clear ho0)) | ((with_reducible refine gate_dst (N := 12) rfl ?_); refine box_event ?hg (N := 12) ?hd (cs := #[.int .i64 0, .int .i64 0, .slice none 0 0]) (t := 26) ?hr ?_; (case hd => rfl); (case hg => rfl); (case hr => first | (go_simp; done) | (go_simp; rfl)); intro gb194 hg w25 hbox hb; replace HO192 := Aside0.mk (Kd.R_below (by (with_reducible repeat (first | apply Kd.R_alloc | apply Kd.R_drewN | apply Kd.R_drew)); exact HO192.out) hb); have BK194 := Aside0.mk (hbox); have GW194 := Aside0.mk ((by rw [hg]; exact (below_size (by repeat (first | (with_reducible first | exact HB.out | apply below_alloc | apply pw_below_drewN | apply below_drew1 | refine below_set ?_ GE185.out) | exact HB.out))) : w.heap.size ≤ gb194)); have GE194 := Aside0.mk ((by rw [hg]; exact (below_size (by repeat (first | (with_reducible first | exact HB.out | apply below_alloc | apply pw_below_drewN | apply below_drew1 | refine below_set ?_ GE185.out) | exact HB.out))) : w.heap.size ≤ gb194)); replace HB := Aside0.mk (below_step (by repeat (first | (with_reducible first | exact HB.out | apply below_alloc | apply pw_below_drewN | apply below_drew1 | refine below_set ?_ GE185.out) | exact HB.out)) hb); have NB185_194 := Aside0.mk ((by rw [hg]; exact Nat.ne_of_lt (blk_lt (g := gb185) (o := .cells #[.int .i64 a4_0, .int .i64 a4_1, .slice A4_2 l4_2.length c4_2] 26 (0, 0)) (by (with_reducible repeat (first | refine blk_drewN ?_ _ | refine blk_drew ?_ | refine blk_alloc ?_ _)); exact BK185.out)) : gb185 ≠ gb194)); have NB194_185 := Aside0.mk ((by rw [hg]; exact Nat.ne_of_gt (blk_lt (g := gb185) (o := .cells #[.int .i64 a4_0, .int .i64 a4_1, .slice A4_2 l4_2.length c4_2] 26 (0, 0)) (by (with_reducible repeat (first | refine blk_drewN ?_ _ | refine blk_drew ?_ | refine blk_alloc ?_ _)); exact BK185.out)) : gb194 ≠ gb185)); replace BK185 := Aside0.mk (blk_below (g := gb185) (o := .cells #[.int .i64 a4_0, .int .i64 a4_1, .slice A4_2 l4_2.length c4_2] 26 (0, 0)) (by (with_reducible repeat (first | refine blk_drewN ?_ _ | refine blk_drew ?_ | refine blk_alloc ?_ _)); exact BK185.out) hb); clear hb hbox hg; have hnb26 := NB194_185.out; have hnc26 := NB185_194.out; have hcz27_0 : w25.cell? ⟨gb194, 0, none⟩ = some (.int .i64 0) := (blk_cell BK194.out 0).trans rfl; have hcz27_1 : w25.cell? ⟨gb194, 1, none⟩ = some (.int .i64 0) := (blk_cell BK194.out 1).trans rfl; have hcz27_2 : w25.cell? ⟨gb194, 2, none⟩ = some (.slice none 0 0) := (blk_cell BK194.out 2).trans rfl; have hfz27_0 := blk_frozen BK194.out 0; have hfz27_1 := blk_frozen BK194.out 1; have hfz27_2 := blk_frozen BK194.out 2; obtain ⟨Ao28, co28, eo28⟩ := Kd.R_slice HO192.out; subst eo28))
          go_ret2
          exact ⟨_, by first | rfl | (simp [errW_none, errW_some] <;> rfl) | (simp [*, errW_none, errW_some] <;> rfl), by first | exact Kd.S_nil _ _ _ _ _ | exact Kd.N_nil _ _ _ _ _ | exact Kd.V_nil _ _ _ _ _ | exact Kd.Q_nil _ _ _ _ _ | exact Kd.R_nil _ _ _ _ _, by repeat (first | (with_reducible first | exact HB.out | apply below_alloc | apply pw_below_drewN | apply below_drew1 | refine below_set ?_ GE185.out | refine below_set ?_ GE194.out) | exact HB.out)⟩
        · rw [if_neg c23] at H
          have c23b0 : (t193 == 3) = false := beq_eq_false_iff_ne.mpr c23
          have c23b1 : (t193 != 3) = true := bne_iff_ne.mpr c23
          have HC29 := Aside0.mk H
          clear H
          go_upto_if 46 with (first | ((with_reducible refine gate_callee (f := 12) rfl ?_); refine goesL_ (some 40) rfl rfl Try.func12 (by kernel_rfl) rfl #[.slice A0 l0.length c0, .int .i64 a1, .int .i64 a2] rfl (by (try simp only [List.map_toArray, List.map_cons, List.map_nil]); first | done | rfl | (simp only [List.length_drop, List.length_take]; rfl)) ?_; (with_reducible refine (session_Check.calls kj5 _ _ l0 a1 a2 t188 t189 t190 t193 _ ?side1 ?side2 A22.out).mono ?_); (case side1 => repeat (first | exact (Kd.C_below HR0.out HB.out) | (with_reducible refine Kd.C_alloc ?_ _) | (with_reducible refine Kd.C_drewN ?_ _) | (with_reducible refine Kd.C_drew ?_))); (case side2 => exact HC0.out); rintro e w30 ⟨v191, rfl, ho0, hb⟩; refine ⟨_, rfl, ?_⟩; have HO192 := Aside0.mk (Kd.R_lower (Kd.R_newM (M := fun k_ => (w.heap.size ≤ k_)) ho0 (below_size (by repeat (first | (with_reducible first | exact HB.out | apply below_alloc | apply pw_below_drewN | apply below_drew1 | refine below_set ?_ GE185.out) | exact HB.out))) (fun k_ h_ => h_)) (below_size (by repeat (first | (with_reducible first | exact HB.out | apply below_alloc | apply pw_below_drewN | apply below_drew1 | refine below_set ?_ GE185.out) | exact HB.out)))); replace BK185 := Aside0.mk (blk_below (g := gb185) (o := .cells #[.int .i64 a4_0, .int .i64 a4_1, .slice A4_2 l4_2.length c4_2] 26 (0, 0)) (by (with_reducible repeat (first | refine blk_drewN ?_ _ | refine blk_drew ?_ | refine blk_alloc ?_ _)); exact BK185.out) hb); replace HB := Aside0.mk (below_step (by repeat (first | (with_reducible first | exact HB.out | apply below_alloc | apply pw_below_drewN | apply below_drew1 | refine below_set ?_ GE185.out) | exact HB.out)) hb); (try clear hb); (try clear hb2); (try clear hk); (try clear hi); (try clear ho0)) | ((with_reducible refine gate_dst (N := 12) rfl ?_); refine box_event ?hg (N := 12) ?hd (cs := #[.int .i64 0, .int .i64 0, .slice none 0 0]) (t := 26) ?hr ?_; (case hd => rfl); (case hg => rfl); (case hr => first | (go_simp; done) | (go_simp; rfl)); intro gb194 hg w31 hbox hb; replace HO192 := Aside0.mk (Kd.R_below (by (with_reducible repeat (first | apply Kd.R_alloc | apply Kd.R_drewN | apply Kd.R_drew)); exact HO192.out) hb); have BK194 := Aside0.mk (hbox); have GW194 := Aside0.mk ((by rw [hg]; exact (below_size (by repeat (first | (with_reducible first | exact HB.out | apply below_alloc | apply pw_below_drewN | apply below_drew1 | refine below_set ?_ GE185.out) | exact HB.out))) : w.heap.size ≤ gb194)); have GE194 := Aside0.mk ((by rw [hg]; exact (below_size (by repeat (first | (with_reducible first | exact HB.out | apply below_alloc | apply pw_below_drewN | apply below_drew1 | refine below_set ?_ GE185.out) | exact HB.out))) : w.heap.size ≤ gb194)); replace HB := Aside0.mk (below_step (by repeat (first | (with_reducible first | exact HB.out | apply below_alloc | apply pw_below_drewN | apply below_drew1 | refine below_set ?_ GE185.out) | exact HB.out)) hb); have NB185_194 := Aside0.mk ((by rw [hg]; exact Nat.ne_of_lt (blk_lt (g := gb185) (o := .cells #[.int .i64 a4_0, .int .i64 a4_1, .slice A4_2 l4_2.length c4_2] 26 (0, 0)) (by (with_reducible repeat (first | refine blk_drewN ?_ _ | refine blk_drew ?_ | refine blk_alloc ?_ _)); exact BK185.out)) : gb185 ≠ gb194)); have NB194_185 := Aside0.mk ((by rw [hg]; exact Nat.ne_of_gt (blk_lt (g := gb185) (o := .cells #[.int .i64 a4_0, .int .i64 a4_1, .slice A4_2 l4_2.length c4_2] 26 (0, 0)) (by (with_reducible repeat (first | refine blk_drewN ?_ _ | refine blk_drew ?_ | refine blk_alloc ?_ _)); exact BK185.out)) : gb194 ≠ gb185)); replace BK185 := Aside0.mk (blk_below (g := gb185) (o := .cells #[.int .i64 a4_0, .int .i64 a4_1, .slice A4_2 l4_2.length c4_2] 26 (0, 0)) (by (with_reducible repeat (first | refine blk_drewN ?_ _ | refine blk_drew ?_ | refine blk_alloc ?_ _)); exact BK185.out) hb); clear hb hbox hg; have hnb32 := NB194_185.out; have hnc32 := NB185_194.out; have hcz33_0 : w31.cell? ⟨gb194, 0, none⟩ = some (.int .i64 0) := (blk_cell BK194.out 0).trans rfl; have hcz33_1 : w31.cell? ⟨gb194, 1, none⟩ = some (.int .i64 0) := (blk_cell BK194.out 1).trans rfl; have hcz33_2 : w31.cell? ⟨gb194, 2, none⟩ = some (.slice none 0 0) := (blk_cell BK194.out 2).trans rfl; have hfz33_0 := blk_frozen BK194.out 0; have hfz33_1 := blk_frozen BK194.out 1; have hfz33_2 := blk_frozen BK194.out 2; obtain ⟨Ao34, co34, eo34⟩ := Kd.R_slice HO192.out; subst eo34))
          (try simp only [Act.put, List.setIfInBounds_toArray, List.set_cons_zero, List.set_cons_succ])
          go_cut [46] (fun v46 wc => ∃ (kq : Nat) (x46_28 : Bool), v46 = .bool x46_28 ∧ Aside0 (session_Put.j1 kq l0 a1 a2 a3 x46_28 a4_0 a4_1 l4_2 = some (r1, r2)) ∧ Aside0 (kq ≤ kj5) ∧ Aside0 (Kd.R Kd.string 9 wc w.heap.size (fun k_ => (w.heap.size ≤ k_)) (.slice Ao34 t190.length co34) t190) ∧ Aside0 (wc.heap[gb185]? = some (.cells #[.int .i64 a4_0, .int .i64 a4_1, (.slice A4_2 l4_2.length c4_2)] 26 (0, 0))) ∧ Aside0 (wc.heap[gb194]? = some (.cells #[.int .i64 t188, .int .i64 t189, (.slice Ao34 t190.length co34)] 26 (0, 0))) ∧ Aside0 (Below w.heap.size w wc))
          case first =>
            have H := HC29.out
            clear HC29
            by_cases c35 : t193 = 2
            · rw [if_pos c35] at H
              have c35b0 : (t193 == 2) = true := beq_iff_eq.mpr c35
              have c35b1 : (t193 != 2) = false := bne_eq_false_iff_eq.mpr c35
              clear c35
              (first | rw [c35b0] | (simp only [i64_w, i32_w]; rw [c35b0]) | skip)
              have H' := Aside0.mk H
              clear H
              go_wp2
              go_meet
              case rel => exact ⟨_, ((t193 == 2)), (by first | rfl | (simp; done) | (simp [*]; done)), H', ⟨by have := HJ5.out; first | omega | exact Nat.le_refl _⟩, ⟨by (with_reducible repeat (first | apply Kd.R_alloc | apply Kd.R_drewN | apply Kd.R_drew)); exact Kd.R_mono (rf3 (Kd.R_types HO192.out BK194.out (by decide)) (fun _ hk => hk.2) (.int .i64 t188) (.int .i64 t189) (.slice Ao34 t190.length co34)) (fun _ hk => hk.1.1)⟩, ⟨by (with_reducible repeat (first | refine blk_drewN ?_ _ | refine blk_drew ?_ | refine blk_alloc ?_ _)); refine blk_far ?_ NB185_194.out _; (with_reducible repeat (first | refine blk_drewN ?_ _ | refine blk_drew ?_ | refine blk_alloc ?_ _)); refine blk_far ?_ NB185_194.out _; (with_reducible repeat (first | refine blk_drewN ?_ _ | refine blk_drew ?_ | refine blk_alloc ?_ _)); refine blk_far ?_ NB185_194.out _; (with_reducible repeat (first | refine blk_drewN ?_ _ | refine blk_drew ?_ | refine blk_alloc ?_ _)); exact BK185.out⟩, ⟨by (with_reducible repeat (first | refine blk_drewN ?_ _ | refine blk_drew ?_ | refine blk_alloc ?_ _)); refine blk_put (cs := #[.int .i64 t188, .int .i64 t189, .slice none 0 0]) ?_ 2 _ rfl; (with_reducible repeat (first | refine blk_drewN ?_ _ | refine blk_drew ?_ | refine blk_alloc ?_ _)); refine blk_put (cs := #[.int .i64 t188, .int .i64 0, .slice none 0 0]) ?_ 1 _ rfl; (with_reducible repeat (first | refine blk_drewN ?_ _ | refine blk_drew ?_ | refine blk_alloc ?_ _)); refine blk_put (cs := #[.int .i64 0, .int .i64 0, .slice none 0 0]) ?_ 0 _ rfl; (with_reducible repeat (first | refine blk_drewN ?_ _ | refine blk_drew ?_ | refine blk_alloc ?_ _)); exact BK194.out⟩, ⟨by repeat (first | (with_reducible first | exact HB.out | apply below_alloc | apply pw_below_drewN | apply below_drew1 | refine below_set ?_ GE185.out | refine below_set ?_ GE194.out) | exact HB.out)⟩⟩
            · rw [if_neg c35] at H
              have c35b0 : (t193 == 2) = false := beq_eq_false_iff_ne.mpr c35
              have c35b1 : (t193 != 2) = true := bne_iff_ne.mpr c35
              (first | rw [c35b0] | (simp only [i64_w, i32_w]; rw [c35b0]) | skip)
              have H' := Aside0.mk H
              clear H
              go_wp2
              go_meet
              case rel => exact ⟨_, ((t193 == 1)), (by first | rfl | (simp; done) | (simp [*]; done)), H', ⟨by have := HJ5.out; first | omega | exact Nat.le_refl _⟩, ⟨by (with_reducible repeat (first | apply Kd.R_alloc | apply Kd.R_drewN | apply Kd.R_drew)); exact Kd.R_mono (rf3 (Kd.R_types HO192.out BK194.out (by decide)) (fun _ hk => hk.2) (.int .i64 t188) (.int .i64 t189) (.slice Ao34 t190.length co34)) (fun _ hk => hk.1.1)⟩, ⟨by (with_reducible repeat (first | refine blk_drewN ?_ _ | refine blk_drew ?_ | refine blk_alloc ?_ _)); refine blk_far ?_ NB185_194.out _; (with_reducible repeat (first | refine blk_drewN ?_ _ | refine blk_drew ?_ | refine blk_alloc ?_ _)); refine blk_far ?_ NB185_194.out _; (with_reducible repeat (first | refine blk_drewN ?_ _ | refine blk_drew ?_ | refine blk_alloc ?_ _)); refine blk_far ?_ NB185_194.out _; (with_reducible repeat (first | refine blk_drewN ?_ _ | refine blk_drew ?_ | refine blk_alloc ?_ _)); exact BK185.out⟩, ⟨by (with_reducible repeat (first | refine blk_drewN ?_ _ | refine blk_drew ?_ | refine blk_alloc ?_ _)); refine blk_put (cs := #[.int .i64 t188, .int .i64 t189, .slice none 0 0]) ?_ 2 _ rfl; (with_reducible repeat (first | refine blk_drewN ?_ _ | refine blk_drew ?_ | refine blk_alloc ?_ _)); refine blk_put (cs := #[.int .i64 t188, .int .i64 0, .slice none 0 0]) ?_ 1 _ rfl; (with_reducible repeat (first | refine blk_drewN ?_ _ | refine blk_drew ?_ | refine blk_alloc ?_ _)); refine blk_put (cs := #[.int .i64 0, .int .i64 0, .slice none 0 0]) ?_ 0 _ rfl; (with_reducible repeat (first | refine blk_drewN ?_ _ | refine blk_drew ?_ | refine blk_alloc ?_ _)); exact BK194.out⟩, ⟨by repeat (first | (with_reducible first | exact HB.out | apply below_alloc | apply pw_below_drewN | apply below_drew1 | refine below_set ?_ GE185.out | refine below_set ?_ GE194.out) | exact HB.out)⟩⟩
          case rest =>
            clear HC29
            try clear c1
            try clear c2
            try clear p2
            try clear c3
            try clear c4
            try clear c9
            try clear c10
            try clear c10b0
            try clear c12
            try clear c12b0
            try clear c14
            try clear c14b0
            try clear c21
            try clear c23
            try clear c23b0
            try clear c23b1
            try clear c26
            try clear c32
            try clear c35
            try clear c35b0
            try clear c35b1
            try clear hcz18_0
            try clear hcz18_1
            try clear hcz18_2
            try clear hcz27_0
            try clear hcz27_1
            try clear hcz27_2
            try clear hcz33_0
            try clear hcz33_1
            try clear hcz33_2
            try clear hfz18_0
            try clear hfz18_1
            try clear hfz18_2
            try clear hfz27_0
            try clear hfz27_1
            try clear hfz27_2
            try clear hfz33_0
            try clear hfz33_1
            try clear hfz33_2
            try clear p2
            obtain ⟨kq, x46_28, rfl, HA, HJ28, HO_195002, BK185, BK194, HB⟩ := hcut
            cases kq with
            | zero => exact absurd HA.out (by simp [session_Put.j1])
            | succ kj28 =>
              have H := HA.out
              clear HA
              simp only [session_Put.j1] at H
              by_cases c36 : x46_28 = true
              · subst c36
                have H1 : (some (([] : List (S39)), 180)) = some (r1, r2) := by rw [if_pos rfl] at H; exact H
                clear H
                have H := H1
                clear H1
                simp only [Option.some.injEq, Prod.mk.injEq] at H
                obtain ⟨rfl, rfl⟩ := H
                go_wp2
                go_ret2
                exact ⟨_, by first | rfl | (simp [errW_none, errW_some] <;> rfl) | (simp [*, errW_none, errW_some] <;> rfl), by first | exact Kd.S_nil _ _ _ _ _ | exact Kd.N_nil _ _ _ _ _ | exact Kd.V_nil _ _ _ _ _ | exact Kd.Q_nil _ _ _ _ _ | exact Kd.R_nil _ _ _ _ _, by repeat (first | (with_reducible first | exact HB.out | apply below_alloc | apply pw_below_drewN | apply below_drew1 | refine below_set ?_ GE185.out | refine below_set ?_ GE194.out) | exact HB.out)⟩
              · replace c36 := Bool.eq_false_iff.mpr c36
                subst c36
                have H1 : ((session_own.f kj28 l0).bind fun t195 => ((session_place.f t195 a1).bind fun t198 => ((session_client_told.f a4_0 a4_1 l4_2 a1 a2 a3).bind fun bt199 => (if 0 ≤ t198 then (if t198 < (t195.length : Int) then (some ((t195.set (t198 : Int).toNat (⟨bt199.1, bt199.2.1, bt199.2.2.1, (⟨bt199.2.2.2.1, bt199.2.2.2.2.1, bt199.2.2.2.2.2⟩ : S26)⟩ : S39)), 0)) else (none)) else (none))))) = some (r1, r2) := by rw [if_neg (show ¬ (false = true) by decide)] at H; exact H
                clear H
                have H := H1
                clear H1
                replace H := Option.bind_eq_some_iff.mp H
                obtain ⟨t195, A370, H⟩ := H
                replace H : ((session_place.f t195 a1).bind fun t198 => ((session_client_told.f a4_0 a4_1 l4_2 a1 a2 a3).bind fun bt199 => (if 0 ≤ t198 then (if t198 < (t195.length : Int) then (some ((t195.set (t198 : Int).toNat (⟨bt199.1, bt199.2.1, bt199.2.2.1, (⟨bt199.2.2.2.1, bt199.2.2.2.2.1, bt199.2.2.2.2.2⟩ : S26)⟩ : S39)), 0)) else (none)) else (none)))) = some (r1, r2) := H
                have A37 := Aside0.mk A370
                clear A370
                replace H := Option.bind_eq_some_iff.mp H
                obtain ⟨t198, A380, H⟩ := H
                replace H : ((session_client_told.f a4_0 a4_1 l4_2 a1 a2 a3).bind fun bt199 => (if 0 ≤ t198 then (if t198 < (t195.length : Int) then (some ((t195.set (t198 : Int).toNat (⟨bt199.1, bt199.2.1, bt199.2.2.1, (⟨bt199.2.2.2.1, bt199.2.2.2.2.1, bt199.2.2.2.2.2⟩ : S26)⟩ : S39)), 0)) else (none)) else (none))) = some (r1, r2) := H
                have A38 := Aside0.mk A380
                clear A380
                replace H := Option.bind_eq_some_iff.mp H
                obtain ⟨⟨t199, t200, t201, t202, t203, t204⟩, A390, H⟩ := H
                replace H : (if 0 ≤ t198 then (if t198 < (t195.length : Int) then (some ((t195.set (t198 : Int).toNat (⟨t199, t200, t201, (⟨t202, t203, t204⟩ : S26)⟩ : S39)), 0)) else (none)) else (none)) = some (r1, r2) := H
                have A39 := Aside0.mk A390
                clear A390
                by_cases c40 : 0 ≤ t198
                · rw [if_pos c40] at H
                  have c40b0 : decide (0 ≤ t198) = true := decide_eq_true c40
                  clear c40
                  by_cases c41 : t198 < (t195.length : Int)
                  · rw [if_pos c41] at H
                    have c41b0 : decide (t198 < (t195.length : Int)) = true := decide_eq_true c41
                    clear c41
                    obtain ⟨y207, hy207⟩ : ∃ y_ : List (S39), y_ = (t195.set (t198 : Int).toNat (⟨t199, t200, t201, (⟨t202, t203, t204⟩ : S26)⟩ : S39)) := ⟨_, rfl⟩
                    replace H : (some (y207, 0)) = some (r1, r2) := by first | (rw [hy207]; with_reducible exact H) | (have H2_ := (Option.bind_some _ _).symm.trans H; rw [hy207]; with_reducible exact H2_) | (have H2_ := (Option.bind_some _ _).symm.trans H; with_reducible exact H2_) | with_reducible exact H | (rw [hy207]; exact H) | exact H
                    have Ny207 := Aside0.mk hy207
                    clear hy207
                    simp only [Option.some.injEq, Prod.mk.injEq] at H
                    obtain ⟨rfl, rfl⟩ := H
                    have HT : Aside0 (T.Tell w _ _) := ⟨T.Tell.ofB HB.out BK185.out GE185.out⟩
                    go_wp2_with ((with_reducible refine gate_callee (f := 30) rfl ?_); refine goesL_ (some 50) rfl rfl Try.func30 (by kernel_rfl) rfl #[.slice A0 l0.length c0] rfl (by (try simp only [List.map_toArray, List.map_cons, List.map_nil]); first | done | rfl) ?_; (with_reducible refine (session_own.calls kj28 _ _ l0 t195 _ ?side1 ?side2 A37.out).mono ?_); (case side1 => exact Kd.C_below HR0.out HT.out.below); (case side2 => exact HC0.out); rintro e w43 ⟨v0, rfl, ho, hb⟩; refine ⟨_, rfl, ?_⟩; obtain ⟨Ao, co, rfl⟩ := Kd.S_slice ho; replace HT := Aside0.mk (HT.out.pushS ho hb); clear ho hb)
                    replace HT := Aside0.mk (HT.out.step (T.below_drew_ _))
                    refine start_ (n := 13) (S := fun w' => w'.cell? ⟨gb185, 0, none⟩ = some (.int .i64 a4_0) ∧ w'.cell? ⟨gb185, 1, none⟩ = some (.int .i64 a4_1) ∧ w'.cell? ⟨gb185, 2, none⟩ = some (.slice A4_2 l4_2.length c4_2)) (ds := [12]) (bt_ 0 13) (by kernel_rfl) rfl rfl ⟨(HT.out.bx 1 rfl 0).trans rfl, (HT.out.bx 1 rfl 1).trans rfl, (HT.out.bx 1 rfl 2).trans rfl⟩ (fun hHeld => ?_); refine with_tabW session_Put.tab11 session_Put.bits11 (fun HT_ HW_ => ?_)
                    generalize w43.drew = w44 at HT hHeld ⊢
                    have Q_ := Qs.mk (n := 13) [(0, 0, 51, 1), (0, 1, 52, 3), (0, 2, 53, 7), (0, 6, 57, 71), (0, 7, 58, 199), (0, 8, 59, 455), (2, 4, 55, 471), (0, 5, 56, 503), (0, 9, 60, 1015)]
                    iterate 9 (first | (obtain ⟨q_, Q_⟩ := Qs.p Q_; refine pureQ_ q_ (v := ?_) (a' := ?_) rfl rfl (any_of HT_.out (by kernel_rfl)) (fun _ _ _ h => h) (Or.inl ⟨by rfl, ?_⟩) ?_ ?_; rotate_left; (intro w'; go_simp; with_reducible rfl); rotate_left; (simp only [Act.put, List.setIfInBounds_toArray, List.set_cons_zero, List.set_cons_succ, i64_w, i32_w]; rfl)) | (obtain ⟨q_, Q_⟩ := Qs.t Q_; refine takeQ_ q_ (v := ?_) (a' := ?_) rfl rfl (take_ofW HT_.out HW_.out (by kernel_rfl)) (fun _ _ _ h => h) (Or.inl ⟨by rfl, ?_⟩) hHeld ?_ ?_; rotate_left; (rintro w' ⟨s0, s1, s2⟩; go_simp; with_reducible rfl); rotate_left; (simp only [Act.put, List.setIfInBounds_toArray, List.set_cons_zero, List.set_cons_succ, i64_w, i32_w]; rfl)))
                    clear Q_
                    refine one_ (i := 3) (N := some 54) (dn_ 10 13) rfl rfl (one_of HT_.out (by kernel_rfl)) (by decide) (fun K hK => ?_)
                    refine goes_ Try.func32 (by kernel_rfl) rfl #[.slice Ao t195.length co, .int .i64 a1] (by rfl) rfl rfl (by (try simp only [List.map_toArray, List.map_cons, List.map_nil]); first | done | rfl) ?_
                    with_reducible refine (session_place.calls _ _ t195 a1 t198 _ ?side1 ?side2 A38.out).mono ?_
                    (case side1 => exact HT.out.sc 0 rfl)
                    (case side2 => exact HT.out.sl 0 rfl)
                    rintro e w46 ⟨rfl, hb⟩
                    refine ⟨_, rfl, ?_⟩
                    replace HT := Aside0.mk (HT.out.step hb)
                    clear hb
                    refine hK.out _ _ ⟨(HT.out.bx 1 rfl 0).trans rfl, (HT.out.bx 1 rfl 1).trans rfl, (HT.out.bx 1 rfl 2).trans rfl⟩ (fun hHeld => ?_)
                    clear hK K
                    refine norm_ (a' := ?_) ?_ ?_
                    rotate_left
                    · show Act.put _ (some 54) _ = _
                      simp only [Act.put, List.setIfInBounds_toArray, List.set_cons_zero, List.set_cons_succ, i64_w, i32_w]
                      rfl
                    refine one_ (i := 10) (N := some 61) (dn_ 11 13) rfl rfl (one_of HT_.out (by kernel_rfl)) (by decide) (fun K hK => ?_)
                    refine goes_ Try.func31 (by kernel_rfl) rfl #[.agg #[.int .i64 a4_0, .int .i64 a4_1, .slice A4_2 l4_2.length c4_2, .int .i64 a1, .int .i64 a2, .int .i64 a3]] (by rfl) rfl rfl (by (try simp only [List.map_toArray, List.map_cons, List.map_nil]); first | done | rfl) ?_
                    with_reducible refine (session_client_told.calls a4_0 a4_1 _ _ l4_2 a1 a2 a3 t199 t200 t201 t202 t203 t204 _ ?side1 ?side2 A39.out).mono ?_
                    (case side1 => exact Kd.C_below HR4_2.out HT.out.below)
                    (case side2 => exact HC4_2.out)
                    rintro e w47 ⟨v1, rfl, ho, hb⟩
                    refine ⟨_, rfl, ?_⟩
                    obtain ⟨Ar, cr, rfl⟩ := Kd.R_slice ho
                    replace HT := Aside0.mk (HT.out.pushR ho hb)
                    clear ho hb
                    have p_ : 0 ≤ (t198 : Int) := of_decide_eq_true (by first | (with_reducible assumption) | assumption)
                    have q_ : (t198 : Int) < ((t195.length : Int) : Int) := of_decide_eq_true (by first | (with_reducible assumption) | assumption)
                    have hS := HT.out.get 1 rfl
                    obtain ⟨go, co2, eo, _, _, _⟩ := Kd.S_form hS (by omega)
                    injection eo with eo _ _
                    subst eo
                    have hdis := HT.out.disj 1 rfl 0 _ rfl (by decide)
                    have hS2 : Kd.S k39 39 w47 w.heap.size (fun k_ => True ∧ ¬ (w46.heap.size ≤ k_ ∧ k_ < w47.heap.size)) (.slice (some ⟨go, 0, none⟩) t195.length co) t195 := Kd.S_mono hS (fun k_ hk => ⟨trivial, fun h3 => hdis k_ h3 hk⟩)
                    obtain ⟨oki, ce, hcl, hM, hcc, hfr, hoki, hH⟩ := Kd.S_elem hS2 z39 (t198 : Int) p_ q_
                    obtain ⟨ve, rfl, hR5⟩ := k39_openM hM
                    have hx_0 : World.cell? _ ⟨go, (t198 : Int).toNat * 6, none⟩ = some _ := hcc 0 _ rfl
                    have hx_1 : World.cell? _ ⟨go, (t198 : Int).toNat * 6 + 1, none⟩ = some _ := hcc 1 _ rfl
                    have hx_2 : World.cell? _ ⟨go, (t198 : Int).toNat * 6 + 2, none⟩ = some _ := hcc 2 _ rfl
                    have hx_3 : World.cell? _ ⟨go, (t198 : Int).toNat * 6 + 3, none⟩ = some _ := hcc 3 _ rfl
                    have hx_4 : World.cell? _ ⟨go, (t198 : Int).toNat * 6 + 4, none⟩ = some _ := hcc 4 _ rfl
                    have hx_5 : World.cell? _ ⟨go, (t198 : Int).toNat * 6 + 5, none⟩ = some _ := hcc 5 _ rfl
                    have hf_0 : World.frozen? _ ⟨go, (t198 : Int).toNat * 6, none⟩ = false := hfr 0
                    have hf_1 : World.frozen? _ ⟨go, (t198 : Int).toNat * 6 + 1, none⟩ = false := hfr 1
                    have hf_2 : World.frozen? _ ⟨go, (t198 : Int).toNat * 6 + 2, none⟩ = false := hfr 2
                    have hf_3 : World.frozen? _ ⟨go, (t198 : Int).toNat * 6 + 3, none⟩ = false := hfr 3
                    have hf_4 : World.frozen? _ ⟨go, (t198 : Int).toNat * 6 + 4, none⟩ = false := hfr 4
                    have hf_5 : World.frozen? _ ⟨go, (t198 : Int).toNat * 6 + 5, none⟩ = false := hfr 5
                    have hgo := HT.out.far 1 rfl (k := go) (hS.elim (fun f hf => hf.1 go (by simp [Value.ownBlock])))
                    have HP := Kd.S_seg (okg := fun k_ => w46.heap.size ≤ k_ ∧ k_ < w47.heap.size) hH p_ q_ (seg := [.int .i64 t199, .int .i64 t200, .int .i64 t201, .int .i64 t202, .int .i64 t203, .slice Ar t204.length cr]) (j := 0) (show 0 + 6 ≤ 6 from by decide) (x' := (⟨t199, t200, t201, (⟨t202, t203, t204⟩ : S26)⟩ : S39)) (okp := fun k_ => w46.heap.size ≤ k_ ∧ k_ < w47.heap.size) (k39_mkM _ _ _ (⟨t199, t200, t201, (⟨t202, t203, t204⟩ : S26)⟩ : S39) (HT.out.get 0 rfl)) (fun _ h => .inr h) (fun k_ hk => ⟨trivial, fun e_ => hdis k_ hk (by rw [e_]; exact hS.elim (fun f hf => hf.1 go (by simp [Value.ownBlock])))⟩)
                    have HP2 := HP.1
                    rw [← Ny207.out] at HP2
                    have HQ := Aside0.mk (Kd.S_mono HP2 (ok' := fun _ => True) (fun _ _ => trivial))
                    have HG := Aside0.mk hgo
                    clear HP HP2 hH hcl hM hcc hfr hoki hR5 hS hS2 hdis hgo
                    replace p_ := eq_true p_
                    replace q_ := eq_true q_
                    refine hK.out _ _ ⟨(HT.out.bx 2 rfl 0).trans rfl, (HT.out.bx 2 rfl 1).trans rfl, (HT.out.bx 2 rfl 2).trans rfl⟩ (fun hHeld => ?_)
                    clear hK K
                    refine norm_ (a' := ?_) ?_ ?_
                    rotate_left
                    · show Act.put _ (some 61) _ = _
                      simp only [Act.put, List.setIfInBounds_toArray, List.set_cons_zero, List.set_cons_succ, i64_w, i32_w]
                      rfl
                    refine pure_ (i := 11) (N := some 62) (v := ?_) (a' := ?_) (dn_ 12 13) rfl rfl (any_of HT_.out (by kernel_rfl)) (fun _ _ _ h => h) (Or.inl ⟨by rfl, ?_⟩) ?_ ?_
                    rotate_left
                    · intro w'
                      go_simp
                      with_reducible rfl
                    rotate_left; (simp only [Act.put, List.setIfInBounds_toArray, List.set_cons_zero, List.set_cons_succ, i64_w, i32_w]; rfl)
                    refine last_ (i := 12) (N := none) (dn_ 13 13) rfl rfl (one_of HT_.out (by kernel_rfl)) (by decide) (fun K hK => ?_)
                    refine skip_ (w1 := ?_) (by rfl) rfl ?_ ?_
                    rotate_left
                    · go_simp
                      rfl
                    refine hK.out _ _ ?_
                    clear hK K
                    refine done_ (done_of HT_.out (by kernel_rfl)) ?_
                    try go_wp2
                    go_ret2
                    exact ⟨_, by first | rfl | (simp [errW_none, errW_some] <;> rfl) | (simp [*, errW_none, errW_some] <;> rfl), HQ.out, by repeat (with_reducible first | exact HT.out.below | refine below_set ?_ HG.out.2)⟩
                  · rw [if_neg c41] at H
                    exact absurd H (by simp)
                · rw [if_neg c40] at H
                  exact absurd H (by simp)


end Go.Proofs.Ytkhdpmbjjcmooaa.F
