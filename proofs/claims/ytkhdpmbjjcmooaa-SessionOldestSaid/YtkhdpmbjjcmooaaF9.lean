-- Written by a program of this session (xprint.py), out of the translation and of contracts proved by hand.
import Derived.Test.YtkhdpmbjjcmooaaF0
import Derived.Test.YtkhdpmbjjcmooaaF8
namespace Go.Proofs.Ytkhdpmbjjcmooaa.F
open Go.RowKit Go.Proofs.YtkhdpmbjjcmooaaV.PrintWords Go.Proofs.YtkhdpmbjjcmooaaV.PrintLast Go.Proofs.YtkhdpmbjjcmooaaV.PrintMore
attribute [local go_sem] max2_int min2_int max_two min_two max_three min_three max_four min_four   -- for this text's walks alone
set_option linter.unusedVariables false
set_option linter.unusedSimpArgs false

/-! ### session_oldest: function 36 -/
def session_oldest.l0 : Nat → List (S39) → Int → Int → Int → Int → Int → Int → Int → List ByteArray → Option (Int × Int × Int × Int × Int × List ByteArray)
  | 0, _, _, _, _, _, _, _, _, _ => none
  | k + 1, x7, x8, x9, x212000, x212001, x212002, x212003, x212004, x212005 => if x9 < x8 then (if 0 ≤ x9 then (if x9 < (x7.length : Int) then ((cmp_Compare_int.f ((rd_T39 x7 x9).f2) x212002).bind fun t215 => ((cmp_Compare_int.f ((rd_T39 x7 x9).f0) x212000).bind fun t216 => ((cmp_Or_int.f k (([t215, t216] : List Int))).bind fun t220 => (if t220 < 0 then (session_oldest.l0 k x7 x8 (wrap64 (x9 + 1)) ((rd_T39 x7 x9).f0) ((rd_T39 x7 x9).f1) ((rd_T39 x7 x9).f2) ((rd_T39 x7 x9).f3.f0) ((rd_T39 x7 x9).f3.f1) ((rd_T39 x7 x9).f3.f2)) else (session_oldest.l0 k x7 x8 (wrap64 (x9 + 1)) x212000 x212001 x212002 x212003 x212004 x212005))))) else (none)) else (none)) else (some (x212000, x212001, x212002, x212003, x212004, x212005))
def session_oldest.f (k : Nat) (a0_0 : Int) (a0_1 : Int) (a0_2 : Int) (a0_3 : Int) (a0_4 : Int) (l0_5 : List ByteArray) (l1 : List (S39)) : Option (Int × Int × Int × Int × Int × List ByteArray) := session_oldest.l0 k l1 (l1.length : Int) 0 a0_0 a0_1 a0_2 a0_3 a0_4 l0_5
theorem session_oldest.mono_l : ∀ k, (∀ y0 y1 y2 y3 y4 y5 y6 y7 y8, LeO (session_oldest.l0 k y0 y1 y2 y3 y4 y5 y6 y7 y8) (session_oldest.l0 (k + 1) y0 y1 y2 y3 y4 y5 y6 y7 y8))
  | 0 => fun _ _ _ _ _ _ _ _ _ r h => by simp [session_oldest.l0] at h
  | k + 1 => by
    have ih0 := session_oldest.mono_l k
    · intro y0 y1 y2 y3 y4 y5 y6 y7 y8
      unfold session_oldest.l0
      repeat' first
      | (with_reducible exact ih0 _ _ _ _ _ _ _ _ _)
      | (with_reducible exact cmp_Or_int.mono _ _)
      | (with_reducible exact LeO.refl _)
      | (with_reducible exact LeO.none _)
      | (with_reducible refine LeO.ite ?_ ?_)
      | (with_reducible refine LeO.bind ?_ (fun _ => ?_))
      | exact ih0 _ _ _ _ _ _ _ _ _
      | exact cmp_Or_int.mono _ _
      | exact LeO.none _
      | refine LeO.ite ?_ ?_
      | refine LeO.bind ?_ (fun _ => ?_)
theorem session_oldest.mono : ∀ a0 a1 a2 a3 a4 a5 a6 k, LeO (session_oldest.f k a0 a1 a2 a3 a4 a5 a6) (session_oldest.f (k + 1) a0 a1 a2 a3 a4 a5 a6) := by
  intro a0 a1 a2 a3 a4 a5 a6 k
  have ih0 := session_oldest.mono_l k
  unfold session_oldest.f
  repeat' first
      | (with_reducible exact ih0 _ _ _ _ _ _ _ _ _)
      | (with_reducible exact cmp_Or_int.mono _ _)
      | (with_reducible exact LeO.refl _)
      | (with_reducible exact LeO.none _)
      | (with_reducible refine LeO.ite ?_ ?_)
      | (with_reducible refine LeO.bind ?_ (fun _ => ?_))
      | exact ih0 _ _ _ _ _ _ _ _ _
      | exact cmp_Or_int.mono _ _
      | exact LeO.none _
      | refine LeO.ite ?_ ?_
      | refine LeO.bind ?_ (fun _ => ?_)
def session_oldest.T4 : Bool × List (List Nat × List Nat) := (true, [([], []), ([0], [0]), ([], []), ([2], [2]), ([1, 3], [1, 3]), ([], []), ([5], [5]), ([], []), ([7], [7]), ([6, 8, 4], [6, 8]), ([4, 9], [4, 9]), ([10, 9], [10]), ([11], [11])])
def session_oldest.B4 : List Nat := [0, 1, 0, 4, 15, 0, 32, 0, 128, 511, 1023, 2047, 4095]
theorem session_oldest.tab4 : rtab .any (opsOf Try.f36 4) = session_oldest.T4 := by kernel_rfl
theorem session_oldest.bits4 : waitsOk session_oldest.T4.2 session_oldest.B4 = true := by kernel_rfl
set_option maxHeartbeats 8000000 in
set_option maxRecDepth 100000 in
theorem session_oldest.calls (k : Nat) (a0_0 : Int) (a0_1 : Int) (a0_2 : Int) (a0_3 : Int) (a0_4 : Int) (P0_5_ : Nat → Prop) (A0_5 : Option Addr) (c0_5 : Nat) (l0_5 : List ByteArray) (P1_ : Nat → Prop) (A1 : Option Addr) (c1 : Nat) (l1 : List (S39)) (r1 : Int) (r2 : Int) (r3 : Int) (r4 : Int) (r5 : Int) (r6 : List ByteArray) (w : World) (hs0_5 : Kd.V Kd.string 9 w w.heap.size (fun k_ => P0_5_ k_) (.slice A0_5 l0_5.length c0_5) l0_5) (hs1 : Kd.V k39 39 w w.heap.size (fun k_ => P1_ k_) (.slice A1 l1.length c1) l1) (h : session_oldest.f k a0_0 a0_1 a0_2 a0_3 a0_4 l0_5 l1 = some (r1, r2, r3, r4, r5, r6)) :
    Calls Try.prog 36 #[.agg #[.int .i64 a0_0, .int .i64 a0_1, .int .i64 a0_2, .int .i64 a0_3, .int .i64 a0_4, .slice A0_5 l0_5.length c0_5], .slice A1 l1.length c1] w fun e w' => ∃ v5_ : Value, e = .returned (.agg #[.int .i64 r1, .int .i64 r2, .int .i64 r3, .int .i64 r4, .int .i64 r5, v5_]) ∧ Kd.V Kd.string 9 w' w.heap.size (fun k_ => ((P0_5_ k_ ∨ P1_ k_) ∨ w.heap.size ≤ k_)) v5_ r6 ∧ Below w.heap.size w w' := by
  have hu39 := Try.underlying39
  have HO0_5 := Aside0.mk (show Kd.V Kd.string 9 w w.heap.size (fun k_ => ((P0_5_ k_ ∨ P1_ k_) ∨ w.heap.size ≤ k_)) (.slice A0_5 l0_5.length c0_5) l0_5 from Kd.V_mono hs0_5 (fun k_ hk => .inl (.inl hk)))
  have HO1 := Aside0.mk (show Kd.V k39 39 w w.heap.size (fun k_ => ((P0_5_ k_ ∨ P1_ k_) ∨ w.heap.size ≤ k_)) (.slice A1 l1.length c1) l1 from Kd.V_mono hs1 (fun k_ hk => .inl (.inr hk)))
  have HB := Aside0.mk (Below.refl w.heap.size w)
  have H : (session_oldest.l0 k l1 (l1.length : Int) 0 a0_0 a0_1 a0_2 a0_3 a0_4 l0_5) = some (r1, r2, r3, r4, r5, r6) := h
  clear h
  have H' := Aside0.mk H
  clear H
  go_enter Try.func36, Try.ntmps36
  go_wp2_with (first | ((with_reducible refine gate_dst (N := 2) rfl ?_); refine box_event ?hg (N := 2) ?hd (cs := #[.int .i64 a0_0, .int .i64 a0_1, .int .i64 a0_2, .int .i64 a0_3, .int .i64 a0_4, .slice A0_5 l0_5.length c0_5]) (t := 39) ?hr ?_; (case hd => rfl); (case hg => rfl); (case hr => first | (go_simp; done) | (go_simp; rfl)); intro gb211 hg w3 hbox hb; have n0_ := Aside0.mk (Kd.V_below (Kd.V_elderB (by (with_reducible repeat (first | apply Kd.V_alloc | apply Kd.V_drewN | apply Kd.V_drew)); exact HO0_5.out) gb211 (Nat.le_of_eq hg.symm)) hb); have n1_ := Aside0.mk (Kd.V_below (Kd.V_elderB (by (with_reducible repeat (first | apply Kd.V_alloc | apply Kd.V_drewN | apply Kd.V_drew)); exact HO1.out) gb211 (Nat.le_of_eq hg.symm)) hb); have n2_ := Aside0.mk (below_step (by repeat (first | (with_reducible first | exact HB.out | apply below_alloc | apply pw_below_drewN | apply below_drew1) | exact HB.out)) hb); have n3_ := Aside0.mk (hbox); have n4_ := Aside0.mk ((by rw [hg]; exact (below_size (by repeat (first | (with_reducible first | exact HB.out | apply below_alloc | apply pw_below_drewN | apply below_drew1) | exact HB.out))) : w.heap.size ≤ gb211)); have n5_ := Aside0.mk ((by rw [hg]; exact (below_size (by repeat (first | (with_reducible first | exact HB.out | apply below_alloc | apply pw_below_drewN | apply below_drew1) | exact HB.out))) : w.heap.size ≤ gb211)); clear HO0_5; clear HO1; clear HB; have HO0_5 := n0_; have HO1 := n1_; have HB := n2_; have BK211 := n3_; have GW211 := n4_; have GE211 := n5_; clear n0_ n1_ n2_ n3_ n4_ n5_; clear hb hbox hg) | ((with_reducible refine gate_dst (N := 4) rfl ?_); refine box_event ?hg (N := 4) ?hd (cs := #[.int .i64 0, .int .i64 0, .int .i64 0, .int .i64 0, .int .i64 0, .slice none 0 0]) (t := 39) ?hr ?_; (case hd => rfl); (case hg => rfl); (case hr => first | (go_simp; done) | (go_simp; rfl)); intro gb212 hg w4 hbox hb; have n0_ := Aside0.mk (Kd.V_below (Kd.V_elderB (by (with_reducible repeat (first | apply Kd.V_alloc | apply Kd.V_drewN | apply Kd.V_drew)); exact HO0_5.out) gb212 (Nat.le_of_eq hg.symm)) hb); have n1_ := Aside0.mk (Kd.V_below (Kd.V_elderB (by (with_reducible repeat (first | apply Kd.V_alloc | apply Kd.V_drewN | apply Kd.V_drew)); exact HO1.out) gb212 (Nat.le_of_eq hg.symm)) hb); have n2_ := Aside0.mk (blk_below (g := gb211) (o := .cells #[.int .i64 a0_0, .int .i64 a0_1, .int .i64 a0_2, .int .i64 a0_3, .int .i64 a0_4, .slice A0_5 l0_5.length c0_5] 39 (0, 0)) (by (with_reducible repeat (first | refine blk_drewN ?_ _ | refine blk_drew ?_ | refine blk_alloc ?_ _)); exact BK211.out) hb); have n3_ := Aside0.mk (below_step (by repeat (first | (with_reducible first | exact HB.out | apply below_alloc | apply pw_below_drewN | apply below_drew1 | refine below_set ?_ GE211.out) | exact HB.out)) hb); have n4_ := Aside0.mk (hbox); have n5_ := Aside0.mk ((by rw [hg]; exact (below_size (by repeat (first | (with_reducible first | exact HB.out | apply below_alloc | apply pw_below_drewN | apply below_drew1 | refine below_set ?_ GE211.out) | exact HB.out))) : w.heap.size ≤ gb212)); have n6_ := Aside0.mk ((by rw [hg]; exact (below_size (by repeat (first | (with_reducible first | exact HB.out | apply below_alloc | apply pw_below_drewN | apply below_drew1 | refine below_set ?_ GE211.out) | exact HB.out))) : w.heap.size ≤ gb212)); have n7_ := Aside0.mk ((by rw [hg]; exact Nat.ne_of_lt (blk_lt (g := gb211) (o := .cells #[.int .i64 a0_0, .int .i64 a0_1, .int .i64 a0_2, .int .i64 a0_3, .int .i64 a0_4, .slice A0_5 l0_5.length c0_5] 39 (0, 0)) (by (with_reducible repeat (first | refine blk_drewN ?_ _ | refine blk_drew ?_ | refine blk_alloc ?_ _)); exact BK211.out)) : gb211 ≠ gb212)); have n8_ := Aside0.mk ((by rw [hg]; exact Nat.ne_of_gt (blk_lt (g := gb211) (o := .cells #[.int .i64 a0_0, .int .i64 a0_1, .int .i64 a0_2, .int .i64 a0_3, .int .i64 a0_4, .slice A0_5 l0_5.length c0_5] 39 (0, 0)) (by (with_reducible repeat (first | refine blk_drewN ?_ _ | refine blk_drew ?_ | refine blk_alloc ?_ _)); exact BK211.out)) : gb212 ≠ gb211)); clear HO0_5; clear HO1; clear BK211; clear HB; have HO0_5 := n0_; have HO1 := n1_; have BK211 := n2_; have HB := n3_; have BK212 := n4_; have GW212 := n5_; have GE212 := n6_; have NB211_212 := n7_; have NB212_211 := n8_; clear n0_ n1_ n2_ n3_ n4_ n5_ n6_ n7_ n8_; clear hb hbox hg))
  go_loopg [9] k (fun kq v9 w' => ∃ (x9_1 : Int) (x212000_1 : Int) (x212001_1 : Int) (x212002_1 : Int) (x212003_1 : Int) (x212004_1 : Int) (x212005_1 : List ByteArray) (u212005 : Value), v9 = .int .i64 x9_1 ∧ Aside0 (session_oldest.l0 kq l1 (l1.length : Int) x9_1 x212000_1 x212001_1 x212002_1 x212003_1 x212004_1 x212005_1 = some (r1, r2, r3, r4, r5, r6)) ∧ Aside0 (kq ≤ k) ∧ Aside0 (Kd.V k39 39 w' w.heap.size (fun k_ => ((P0_5_ k_ ∨ P1_ k_) ∨ w.heap.size ≤ k_) ∧ k_ ≠ gb211 ∧ k_ ≠ gb212) (.slice A1 l1.length c1) l1) ∧ Aside0 (Kd.V Kd.string 9 w' w.heap.size (fun k_ => ((P0_5_ k_ ∨ P1_ k_) ∨ w.heap.size ≤ k_) ∧ k_ ≠ gb211 ∧ k_ ≠ gb212) u212005 x212005_1) ∧ Aside0 (w'.heap[gb211]? = some (.cells #[.int .i64 x212000_1, .int .i64 x212001_1, .int .i64 x212002_1, .int .i64 x212003_1, .int .i64 x212004_1, u212005] 39 (0, 0))) ∧ Aside0 (w'.heap[gb212]? = some (.cells #[.int .i64 0, .int .i64 0, .int .i64 0, .int .i64 0, .int .i64 0, (.slice none 0 0)] 39 (0, 0))) ∧ Aside0 (Below w.heap.size w w'))
  case atStart => exact ⟨(0), (a0_0), (a0_1), (a0_2), (a0_3), (a0_4), (l0_5), (.slice A0_5 l0_5.length c0_5), (by first | rfl | (simp; done) | (simp [*]; done)), H', ⟨Nat.le_refl _⟩, ⟨by (with_reducible repeat (first | apply Kd.V_alloc | apply Kd.V_drewN | apply Kd.V_drew)); exact Kd.V_mono HO1.out (fun _ hk => ⟨hk.1.1, ⟨hk.1.2, hk.2⟩⟩)⟩, ⟨by (with_reducible repeat (first | apply Kd.V_alloc | apply Kd.V_drewN | apply Kd.V_drew)); exact Kd.V_mono HO0_5.out (fun _ hk => ⟨hk.1.1, ⟨hk.1.2, hk.2⟩⟩)⟩, ⟨by (with_reducible repeat (first | refine blk_drewN ?_ _ | refine blk_drew ?_ | refine blk_alloc ?_ _)); exact BK211.out⟩, ⟨by (with_reducible repeat (first | refine blk_drewN ?_ _ | refine blk_drew ?_ | refine blk_alloc ?_ _)); exact BK212.out⟩, ⟨by repeat (first | (with_reducible first | exact HB.out | apply below_alloc | apply pw_below_drewN | apply below_drew1 | refine below_set ?_ GE211.out | refine below_set ?_ GE212.out) | exact HB.out)⟩⟩
  case round =>
    clear H'
    try clear c1
    try clear p2
    try clear c3
    obtain ⟨x9_1, x212000_1, x212001_1, x212002_1, x212003_1, x212004_1, x212005_1, u212005, rfl, HA, HK1, HO_7, HO_212005, BK211, BK212, HB⟩ := hrel
    cases gk with
    | zero => exact absurd HA.out (by simp [session_oldest.l0])
    | succ k1 =>
      have H := HA.out
      clear HA
      simp only [session_oldest.l0] at H
      by_cases c5 : x9_1 < (l1.length : Int)
      · rw [if_pos c5] at H
        have c5b0 : decide (x9_1 < (l1.length : Int)) = true := decide_eq_true c5
        clear c5
        by_cases c6 : 0 ≤ x9_1
        · rw [if_pos c6] at H
          have c6b0 : decide (0 ≤ x9_1) = true := decide_eq_true c6
          clear c6
          by_cases c7 : x9_1 < (l1.length : Int)
          · rw [if_pos c7] at H
            have c7b0 : decide (x9_1 < (l1.length : Int)) = true := decide_eq_true c7
            clear c7
            replace H := Option.bind_eq_some_iff.mp H
            obtain ⟨t215, A80, H⟩ := H
            replace H : ((cmp_Compare_int.f ((rd_T39 l1 x9_1).f0) x212000_1).bind fun t216 => ((cmp_Or_int.f k1 (([t215, t216] : List Int))).bind fun t220 => (if t220 < 0 then (session_oldest.l0 k1 l1 (l1.length : Int) (wrap64 (x9_1 + 1)) ((rd_T39 l1 x9_1).f0) ((rd_T39 l1 x9_1).f1) ((rd_T39 l1 x9_1).f2) ((rd_T39 l1 x9_1).f3.f0) ((rd_T39 l1 x9_1).f3.f1) ((rd_T39 l1 x9_1).f3.f2)) else (session_oldest.l0 k1 l1 (l1.length : Int) (wrap64 (x9_1 + 1)) x212000_1 x212001_1 x212002_1 x212003_1 x212004_1 x212005_1)))) = some (r1, r2, r3, r4, r5, r6) := H
            have A8 := Aside0.mk A80
            clear A80
            replace H := Option.bind_eq_some_iff.mp H
            obtain ⟨t216, A90, H⟩ := H
            replace H : ((cmp_Or_int.f k1 (([t215, t216] : List Int))).bind fun t220 => (if t220 < 0 then (session_oldest.l0 k1 l1 (l1.length : Int) (wrap64 (x9_1 + 1)) ((rd_T39 l1 x9_1).f0) ((rd_T39 l1 x9_1).f1) ((rd_T39 l1 x9_1).f2) ((rd_T39 l1 x9_1).f3.f0) ((rd_T39 l1 x9_1).f3.f1) ((rd_T39 l1 x9_1).f3.f2)) else (session_oldest.l0 k1 l1 (l1.length : Int) (wrap64 (x9_1 + 1)) x212000_1 x212001_1 x212002_1 x212003_1 x212004_1 x212005_1))) = some (r1, r2, r3, r4, r5, r6) := H
            have A9 := Aside0.mk A90
            clear A90
            obtain ⟨y217, hy217⟩ : ∃ y_ : List Int, y_ = (([t215, t216] : List Int)) := ⟨_, rfl⟩
            replace H : ((cmp_Or_int.f k1 y217).bind fun t220 => (if t220 < 0 then (session_oldest.l0 k1 l1 (l1.length : Int) (wrap64 (x9_1 + 1)) ((rd_T39 l1 x9_1).f0) ((rd_T39 l1 x9_1).f1) ((rd_T39 l1 x9_1).f2) ((rd_T39 l1 x9_1).f3.f0) ((rd_T39 l1 x9_1).f3.f1) ((rd_T39 l1 x9_1).f3.f2)) else (session_oldest.l0 k1 l1 (l1.length : Int) (wrap64 (x9_1 + 1)) x212000_1 x212001_1 x212002_1 x212003_1 x212004_1 x212005_1))) = some (r1, r2, r3, r4, r5, r6) := by first | (rw [hy217]; with_reducible exact H) | (have H2_ := (Option.bind_some _ _).symm.trans H; rw [hy217]; with_reducible exact H2_) | (have H2_ := (Option.bind_some _ _).symm.trans H; with_reducible exact H2_) | with_reducible exact H | (rw [hy217]; exact H) | exact H
            have Ny217 := Aside0.mk hy217
            clear hy217
            replace H := Option.bind_eq_some_iff.mp H
            obtain ⟨t220, A100, H⟩ := H
            replace H : (if t220 < 0 then (session_oldest.l0 k1 l1 (l1.length : Int) (wrap64 (x9_1 + 1)) ((rd_T39 l1 x9_1).f0) ((rd_T39 l1 x9_1).f1) ((rd_T39 l1 x9_1).f2) ((rd_T39 l1 x9_1).f3.f0) ((rd_T39 l1 x9_1).f3.f1) ((rd_T39 l1 x9_1).f3.f2)) else (session_oldest.l0 k1 l1 (l1.length : Int) (wrap64 (x9_1 + 1)) x212000_1 x212001_1 x212002_1 x212003_1 x212004_1 x212005_1)) = some (r1, r2, r3, r4, r5, r6) := H
            have A10 := Aside0.mk A100
            clear A100
            by_cases c11 : t220 < 0
            · rw [if_pos c11] at H
              have c11b0 : decide (t220 < 0) = true := decide_eq_true c11
              clear c11
              have H' := Aside0.mk H
              clear H
              have p213 : 0 ≤ (x9_1 : Int) := of_decide_eq_true (by first | (with_reducible assumption) | assumption)
              have q213 : x9_1 < (l1.length : Int) := of_decide_eq_true (by first | (with_reducible assumption) | assumption)
              obtain ⟨ad213, A213_5, c213_5, e213, hx213_0, hx213_1, hx213_2, hx213_3, hx213_4, hx213_5, hl213_5, hi213_5⟩ := at_T39 (Kd.V_reads' HO_7.out).2.2 x9_1 p213 q213
              cases e213
              obtain ⟨ce213, hce213, hMe213, hcc213⟩ := Kd.V_get HO_7.out z39 x9_1 p213 (by first | exact q213 | exact of_decide_eq_true (by first | (with_reducible assumption) | assumption) | (have e_ := (Kd.V_reads' HO_7.out).1; omega))
              obtain ⟨ua213_5, uc213_5, rfl, ul213_5, ge213_5⟩ := k39_openF hMe213
              have hv213_5 := hcc213 5 _ rfl
              rw [add_field _ _ 5 (by omega)] at hv213_5
              replace hv213_5 := Option.some.inj (hv213_5.symm.trans hx213_5)
              injection hv213_5 with hva_ hvn_ hvc_
              rw [hva_] at ge213_5
              rw [hvc_] at ul213_5
              have HL213_5 := Aside0.mk (show Kd.V Kd.string 9 _ w.heap.size _ _ ((rd_T39 l1 x9_1).f3.f2) from Kd.V_mk ul213_5 ge213_5)
              clear hva_ hvn_ hvc_ ge213_5 ul213_5
              clear hcc213 hce213
              have HR213_5 := Aside0.mk hi213_5
              have HC213_5 := Aside0.mk hl213_5
              clear hi213_5 hl213_5
              replace p213 := eq_true p213
              replace q213 := eq_true q213
              try go_wp2_with (first | ((with_reducible refine gate_dst (N := 6) rfl ?_); refine box_event ?hg (N := 6) ?hd (cs := #[.int .i64 0, .int .i64 0, .int .i64 0, .int .i64 0, .int .i64 0, .slice none 0 0]) (t := 39) ?hr ?_; (case hd => rfl); (case hg => rfl); (case hr => first | (go_simp; done) | (go_simp; rfl)); intro gb214 hg w12 hbox hb; have n0_ := Aside0.mk (Kd.V_below (Kd.V_elderB (by (with_reducible repeat (first | apply Kd.V_alloc | apply Kd.V_drewN | apply Kd.V_drew)); exact HO_7.out) gb214 (Nat.le_of_eq hg.symm)) hb); have n1_ := Aside0.mk (Kd.V_below (Kd.V_elderB (by (with_reducible repeat (first | apply Kd.V_alloc | apply Kd.V_drewN | apply Kd.V_drew)); exact HO_212005.out) gb214 (Nat.le_of_eq hg.symm)) hb); have n2_ := Aside0.mk (Kd.V_below (Kd.V_elderB (by (with_reducible repeat (first | apply Kd.V_alloc | apply Kd.V_drewN | apply Kd.V_drew)); exact HL213_5.out) gb214 (Nat.le_of_eq hg.symm)) hb); have n3_ := Aside0.mk (blk_below (g := gb211) (o := .cells #[.int .i64 x212000_1, .int .i64 x212001_1, .int .i64 x212002_1, .int .i64 x212003_1, .int .i64 x212004_1, u212005] 39 (0, 0)) (by (with_reducible repeat (first | refine blk_drewN ?_ _ | refine blk_drew ?_ | refine blk_alloc ?_ _)); exact BK211.out) hb); have n4_ := Aside0.mk (blk_below (g := gb212) (o := .cells #[.int .i64 0, .int .i64 0, .int .i64 0, .int .i64 0, .int .i64 0, .slice none 0 0] 39 (0, 0)) (by (with_reducible repeat (first | refine blk_drewN ?_ _ | refine blk_drew ?_ | refine blk_alloc ?_ _)); exact BK212.out) hb); have n5_ := Aside0.mk (Kd.C_below (by repeat (first | (with_reducible exact HR213_5.out) | (with_reducible refine Kd.C_alloc ?_ _) | (with_reducible refine Kd.C_drewN ?_ _) | (with_reducible refine Kd.C_drew ?_) | exact HR213_5.out)) hb); have n6_ := Aside0.mk (below_step (by repeat (first | (with_reducible first | exact HB.out | apply below_alloc | apply pw_below_drewN | apply below_drew1 | refine below_set ?_ GE211.out | refine below_set ?_ GE212.out) | exact HB.out)) hb); have n7_ := Aside0.mk (hbox); have n8_ := Aside0.mk ((by rw [hg]; exact (below_size (by repeat (first | (with_reducible first | exact HB.out | apply below_alloc | apply pw_below_drewN | apply below_drew1 | refine below_set ?_ GE211.out | refine below_set ?_ GE212.out) | exact HB.out))) : w.heap.size ≤ gb214)); have n9_ := Aside0.mk ((by rw [hg]; exact (below_size (by repeat (first | (with_reducible first | exact HB.out | apply below_alloc | apply pw_below_drewN | apply below_drew1 | refine below_set ?_ GE211.out | refine below_set ?_ GE212.out) | exact HB.out))) : w.heap.size ≤ gb214)); have n10_ := Aside0.mk ((by rw [hg]; exact Nat.ne_of_lt (blk_lt (g := gb211) (o := .cells #[.int .i64 x212000_1, .int .i64 x212001_1, .int .i64 x212002_1, .int .i64 x212003_1, .int .i64 x212004_1, u212005] 39 (0, 0)) (by (with_reducible repeat (first | refine blk_drewN ?_ _ | refine blk_drew ?_ | refine blk_alloc ?_ _)); exact BK211.out)) : gb211 ≠ gb214)); have n11_ := Aside0.mk ((by rw [hg]; exact Nat.ne_of_gt (blk_lt (g := gb211) (o := .cells #[.int .i64 x212000_1, .int .i64 x212001_1, .int .i64 x212002_1, .int .i64 x212003_1, .int .i64 x212004_1, u212005] 39 (0, 0)) (by (with_reducible repeat (first | refine blk_drewN ?_ _ | refine blk_drew ?_ | refine blk_alloc ?_ _)); exact BK211.out)) : gb214 ≠ gb211)); have n12_ := Aside0.mk ((by rw [hg]; exact Nat.ne_of_lt (blk_lt (g := gb212) (o := .cells #[.int .i64 0, .int .i64 0, .int .i64 0, .int .i64 0, .int .i64 0, .slice none 0 0] 39 (0, 0)) (by (with_reducible repeat (first | refine blk_drewN ?_ _ | refine blk_drew ?_ | refine blk_alloc ?_ _)); exact BK212.out)) : gb212 ≠ gb214)); have n13_ := Aside0.mk ((by rw [hg]; exact Nat.ne_of_gt (blk_lt (g := gb212) (o := .cells #[.int .i64 0, .int .i64 0, .int .i64 0, .int .i64 0, .int .i64 0, .slice none 0 0] 39 (0, 0)) (by (with_reducible repeat (first | refine blk_drewN ?_ _ | refine blk_drew ?_ | refine blk_alloc ?_ _)); exact BK212.out)) : gb214 ≠ gb212)); clear HO_7; clear HO_212005; clear HL213_5; clear BK211; clear BK212; clear HR213_5; clear HB; have HO_7 := n0_; have HO_212005 := n1_; have HL213_5 := n2_; have BK211 := n3_; have BK212 := n4_; have HR213_5 := n5_; have HB := n6_; have BK214 := n7_; have GW214 := n8_; have GE214 := n9_; have NB211_214 := n10_; have NB214_211 := n11_; have NB212_214 := n12_; have NB214_212 := n13_; clear n0_ n1_ n2_ n3_ n4_ n5_ n6_ n7_ n8_ n9_ n10_ n11_ n12_ n13_; clear hb hbox hg; have hnb13 := NB214_211.out; have hnc13 := NB211_214.out; have hnb14 := NB214_212.out; have hnc14 := NB212_214.out; have hcz15_0 : w12.cell? ⟨gb214, 0, none⟩ = some (.int .i64 0) := (blk_cell BK214.out 0).trans rfl; have hcz15_1 : w12.cell? ⟨gb214, 1, none⟩ = some (.int .i64 0) := (blk_cell BK214.out 1).trans rfl; have hcz15_2 : w12.cell? ⟨gb214, 2, none⟩ = some (.int .i64 0) := (blk_cell BK214.out 2).trans rfl; have hcz15_3 : w12.cell? ⟨gb214, 3, none⟩ = some (.int .i64 0) := (blk_cell BK214.out 3).trans rfl; have hcz15_4 : w12.cell? ⟨gb214, 4, none⟩ = some (.int .i64 0) := (blk_cell BK214.out 4).trans rfl; have hcz15_5 : w12.cell? ⟨gb214, 5, none⟩ = some (.slice none 0 0) := (blk_cell BK214.out 5).trans rfl; have hfz15_0 := blk_frozen BK214.out 0; have hfz15_1 := blk_frozen BK214.out 1; have hfz15_2 := blk_frozen BK214.out 2; have hfz15_3 := blk_frozen BK214.out 3; have hfz15_4 := blk_frozen BK214.out 4; have hfz15_5 := blk_frozen BK214.out 5))
              have n0_ : Aside0 (Kd.V k39 39 ((((((w12.setCell ⟨gb214, 0, none⟩ (.int .i64 ((rd_T39 l1 x9_1).f0))).setCell ⟨gb214, 1, none⟩ (.int .i64 ((rd_T39 l1 x9_1).f1))).setCell ⟨gb214, 2, none⟩ (.int .i64 ((rd_T39 l1 x9_1).f2))).setCell ⟨gb214, 3, none⟩ (.int .i64 ((rd_T39 l1 x9_1).f3.f0))).setCell ⟨gb214, 4, none⟩ (.int .i64 ((rd_T39 l1 x9_1).f3.f1))).setCell ⟨gb214, 5, none⟩ (.slice A213_5 ((rd_T39 l1 x9_1).f3.f2).length c213_5)) w.heap.size (fun k_ => ((P0_5_ k_ ∨ P1_ k_) ∨ w.heap.size ≤ k_) ∧ k_ ≠ gb211 ∧ k_ ≠ gb212 ∧ k_ ≠ gb214) (.slice (some ad213) l1.length c1) l1) := ⟨by (with_reducible repeat (first | apply Kd.V_alloc | apply Kd.V_drewN | apply Kd.V_drew)); exact Kd.V_mono (Kd.V_far (p := ⟨gb214, 5, none⟩) (Kd.V_far (p := ⟨gb214, 4, none⟩) (Kd.V_far (p := ⟨gb214, 3, none⟩) (Kd.V_far (p := ⟨gb214, 2, none⟩) (Kd.V_far (p := ⟨gb214, 1, none⟩) (Kd.V_far (p := ⟨gb214, 0, none⟩) (Kd.V_mono HO_7.out (fun k_ hk => (⟨hk, hk.2⟩ : _ ∧ k_ ≠ gb214))) (fun _ hk => hk.2) (.int .i64 ((rd_T39 l1 x9_1).f0))) (fun _ hk => hk.2) (.int .i64 ((rd_T39 l1 x9_1).f1))) (fun _ hk => hk.2) (.int .i64 ((rd_T39 l1 x9_1).f2))) (fun _ hk => hk.2) (.int .i64 ((rd_T39 l1 x9_1).f3.f0))) (fun _ hk => hk.2) (.int .i64 ((rd_T39 l1 x9_1).f3.f1))) (fun _ hk => hk.2) (.slice A213_5 ((rd_T39 l1 x9_1).f3.f2).length c213_5)) (fun _ hk => ⟨hk.1.1.1, ⟨hk.1.1.2.1, ⟨hk.1.1.2.2, hk.1.2⟩⟩⟩)⟩
              have n1_ : Aside0 (Kd.V Kd.string 9 ((((((w12.setCell ⟨gb214, 0, none⟩ (.int .i64 ((rd_T39 l1 x9_1).f0))).setCell ⟨gb214, 1, none⟩ (.int .i64 ((rd_T39 l1 x9_1).f1))).setCell ⟨gb214, 2, none⟩ (.int .i64 ((rd_T39 l1 x9_1).f2))).setCell ⟨gb214, 3, none⟩ (.int .i64 ((rd_T39 l1 x9_1).f3.f0))).setCell ⟨gb214, 4, none⟩ (.int .i64 ((rd_T39 l1 x9_1).f3.f1))).setCell ⟨gb214, 5, none⟩ (.slice A213_5 ((rd_T39 l1 x9_1).f3.f2).length c213_5)) w.heap.size (fun k_ => ((P0_5_ k_ ∨ P1_ k_) ∨ w.heap.size ≤ k_) ∧ k_ ≠ gb211 ∧ k_ ≠ gb212 ∧ k_ ≠ gb214) u212005 x212005_1) := ⟨by (with_reducible repeat (first | apply Kd.V_alloc | apply Kd.V_drewN | apply Kd.V_drew)); exact Kd.V_mono (Kd.V_far (p := ⟨gb214, 5, none⟩) (Kd.V_far (p := ⟨gb214, 4, none⟩) (Kd.V_far (p := ⟨gb214, 3, none⟩) (Kd.V_far (p := ⟨gb214, 2, none⟩) (Kd.V_far (p := ⟨gb214, 1, none⟩) (Kd.V_far (p := ⟨gb214, 0, none⟩) (Kd.V_mono HO_212005.out (fun k_ hk => (⟨hk, hk.2⟩ : _ ∧ k_ ≠ gb214))) (fun _ hk => hk.2) (.int .i64 ((rd_T39 l1 x9_1).f0))) (fun _ hk => hk.2) (.int .i64 ((rd_T39 l1 x9_1).f1))) (fun _ hk => hk.2) (.int .i64 ((rd_T39 l1 x9_1).f2))) (fun _ hk => hk.2) (.int .i64 ((rd_T39 l1 x9_1).f3.f0))) (fun _ hk => hk.2) (.int .i64 ((rd_T39 l1 x9_1).f3.f1))) (fun _ hk => hk.2) (.slice A213_5 ((rd_T39 l1 x9_1).f3.f2).length c213_5)) (fun _ hk => ⟨hk.1.1.1, ⟨hk.1.1.2.1, ⟨hk.1.1.2.2, hk.1.2⟩⟩⟩)⟩
              have n2_ : Aside0 (Kd.V Kd.string 9 ((((((w12.setCell ⟨gb214, 0, none⟩ (.int .i64 ((rd_T39 l1 x9_1).f0))).setCell ⟨gb214, 1, none⟩ (.int .i64 ((rd_T39 l1 x9_1).f1))).setCell ⟨gb214, 2, none⟩ (.int .i64 ((rd_T39 l1 x9_1).f2))).setCell ⟨gb214, 3, none⟩ (.int .i64 ((rd_T39 l1 x9_1).f3.f0))).setCell ⟨gb214, 4, none⟩ (.int .i64 ((rd_T39 l1 x9_1).f3.f1))).setCell ⟨gb214, 5, none⟩ (.slice A213_5 ((rd_T39 l1 x9_1).f3.f2).length c213_5)) w.heap.size (fun k_ => ((P0_5_ k_ ∨ P1_ k_) ∨ w.heap.size ≤ k_) ∧ k_ ≠ gb211 ∧ k_ ≠ gb212 ∧ k_ ≠ gb214) (.slice A213_5 ((rd_T39 l1 x9_1).f3.f2).length c213_5) ((rd_T39 l1 x9_1).f3.f2)) := ⟨by (with_reducible repeat (first | apply Kd.V_alloc | apply Kd.V_drewN | apply Kd.V_drew)); exact Kd.V_mono (Kd.V_far (p := ⟨gb214, 5, none⟩) (Kd.V_far (p := ⟨gb214, 4, none⟩) (Kd.V_far (p := ⟨gb214, 3, none⟩) (Kd.V_far (p := ⟨gb214, 2, none⟩) (Kd.V_far (p := ⟨gb214, 1, none⟩) (Kd.V_far (p := ⟨gb214, 0, none⟩) (Kd.V_mono HL213_5.out (fun k_ hk => (⟨hk, hk.2⟩ : _ ∧ k_ ≠ gb214))) (fun _ hk => hk.2) (.int .i64 ((rd_T39 l1 x9_1).f0))) (fun _ hk => hk.2) (.int .i64 ((rd_T39 l1 x9_1).f1))) (fun _ hk => hk.2) (.int .i64 ((rd_T39 l1 x9_1).f2))) (fun _ hk => hk.2) (.int .i64 ((rd_T39 l1 x9_1).f3.f0))) (fun _ hk => hk.2) (.int .i64 ((rd_T39 l1 x9_1).f3.f1))) (fun _ hk => hk.2) (.slice A213_5 ((rd_T39 l1 x9_1).f3.f2).length c213_5)) (fun _ hk => ⟨hk.1.1.1, ⟨hk.1.1.2.1, ⟨hk.1.1.2.2, hk.1.2⟩⟩⟩)⟩
              have n3_ : Aside0 (((((((w12.setCell ⟨gb214, 0, none⟩ (.int .i64 ((rd_T39 l1 x9_1).f0))).setCell ⟨gb214, 1, none⟩ (.int .i64 ((rd_T39 l1 x9_1).f1))).setCell ⟨gb214, 2, none⟩ (.int .i64 ((rd_T39 l1 x9_1).f2))).setCell ⟨gb214, 3, none⟩ (.int .i64 ((rd_T39 l1 x9_1).f3.f0))).setCell ⟨gb214, 4, none⟩ (.int .i64 ((rd_T39 l1 x9_1).f3.f1))).setCell ⟨gb214, 5, none⟩ (.slice A213_5 ((rd_T39 l1 x9_1).f3.f2).length c213_5)).heap[gb211]? = some (.cells #[.int .i64 x212000_1, .int .i64 x212001_1, .int .i64 x212002_1, .int .i64 x212003_1, .int .i64 x212004_1, u212005] 39 (0, 0))) := ⟨by (with_reducible repeat (first | refine blk_drewN ?_ _ | refine blk_drew ?_ | refine blk_alloc ?_ _)); refine blk_far ?_ NB211_214.out _; (with_reducible repeat (first | refine blk_drewN ?_ _ | refine blk_drew ?_ | refine blk_alloc ?_ _)); refine blk_far ?_ NB211_214.out _; (with_reducible repeat (first | refine blk_drewN ?_ _ | refine blk_drew ?_ | refine blk_alloc ?_ _)); refine blk_far ?_ NB211_214.out _; (with_reducible repeat (first | refine blk_drewN ?_ _ | refine blk_drew ?_ | refine blk_alloc ?_ _)); refine blk_far ?_ NB211_214.out _; (with_reducible repeat (first | refine blk_drewN ?_ _ | refine blk_drew ?_ | refine blk_alloc ?_ _)); refine blk_far ?_ NB211_214.out _; (with_reducible repeat (first | refine blk_drewN ?_ _ | refine blk_drew ?_ | refine blk_alloc ?_ _)); refine blk_far ?_ NB211_214.out _; (with_reducible repeat (first | refine blk_drewN ?_ _ | refine blk_drew ?_ | refine blk_alloc ?_ _)); exact BK211.out⟩
              have n4_ : Aside0 (((((((w12.setCell ⟨gb214, 0, none⟩ (.int .i64 ((rd_T39 l1 x9_1).f0))).setCell ⟨gb214, 1, none⟩ (.int .i64 ((rd_T39 l1 x9_1).f1))).setCell ⟨gb214, 2, none⟩ (.int .i64 ((rd_T39 l1 x9_1).f2))).setCell ⟨gb214, 3, none⟩ (.int .i64 ((rd_T39 l1 x9_1).f3.f0))).setCell ⟨gb214, 4, none⟩ (.int .i64 ((rd_T39 l1 x9_1).f3.f1))).setCell ⟨gb214, 5, none⟩ (.slice A213_5 ((rd_T39 l1 x9_1).f3.f2).length c213_5)).heap[gb212]? = some (.cells #[.int .i64 0, .int .i64 0, .int .i64 0, .int .i64 0, .int .i64 0, .slice none 0 0] 39 (0, 0))) := ⟨by (with_reducible repeat (first | refine blk_drewN ?_ _ | refine blk_drew ?_ | refine blk_alloc ?_ _)); refine blk_far ?_ NB212_214.out _; (with_reducible repeat (first | refine blk_drewN ?_ _ | refine blk_drew ?_ | refine blk_alloc ?_ _)); refine blk_far ?_ NB212_214.out _; (with_reducible repeat (first | refine blk_drewN ?_ _ | refine blk_drew ?_ | refine blk_alloc ?_ _)); refine blk_far ?_ NB212_214.out _; (with_reducible repeat (first | refine blk_drewN ?_ _ | refine blk_drew ?_ | refine blk_alloc ?_ _)); refine blk_far ?_ NB212_214.out _; (with_reducible repeat (first | refine blk_drewN ?_ _ | refine blk_drew ?_ | refine blk_alloc ?_ _)); refine blk_far ?_ NB212_214.out _; (with_reducible repeat (first | refine blk_drewN ?_ _ | refine blk_drew ?_ | refine blk_alloc ?_ _)); refine blk_far ?_ NB212_214.out _; (with_reducible repeat (first | refine blk_drewN ?_ _ | refine blk_drew ?_ | refine blk_alloc ?_ _)); exact BK212.out⟩
              have n5_ : Aside0 (((((((w12.setCell ⟨gb214, 0, none⟩ (.int .i64 ((rd_T39 l1 x9_1).f0))).setCell ⟨gb214, 1, none⟩ (.int .i64 ((rd_T39 l1 x9_1).f1))).setCell ⟨gb214, 2, none⟩ (.int .i64 ((rd_T39 l1 x9_1).f2))).setCell ⟨gb214, 3, none⟩ (.int .i64 ((rd_T39 l1 x9_1).f3.f0))).setCell ⟨gb214, 4, none⟩ (.int .i64 ((rd_T39 l1 x9_1).f3.f1))).setCell ⟨gb214, 5, none⟩ (.slice A213_5 ((rd_T39 l1 x9_1).f3.f2).length c213_5)).heap[gb214]? = some (.cells #[.int .i64 ((rd_T39 l1 x9_1).f0), .int .i64 ((rd_T39 l1 x9_1).f1), .int .i64 ((rd_T39 l1 x9_1).f2), .int .i64 ((rd_T39 l1 x9_1).f3.f0), .int .i64 ((rd_T39 l1 x9_1).f3.f1), .slice A213_5 ((rd_T39 l1 x9_1).f3.f2).length c213_5] 39 (0, 0))) := ⟨by (with_reducible repeat (first | refine blk_drewN ?_ _ | refine blk_drew ?_ | refine blk_alloc ?_ _)); refine blk_put (cs := #[.int .i64 ((rd_T39 l1 x9_1).f0), .int .i64 ((rd_T39 l1 x9_1).f1), .int .i64 ((rd_T39 l1 x9_1).f2), .int .i64 ((rd_T39 l1 x9_1).f3.f0), .int .i64 ((rd_T39 l1 x9_1).f3.f1), .slice none 0 0]) ?_ 5 _ rfl; (with_reducible repeat (first | refine blk_drewN ?_ _ | refine blk_drew ?_ | refine blk_alloc ?_ _)); refine blk_put (cs := #[.int .i64 ((rd_T39 l1 x9_1).f0), .int .i64 ((rd_T39 l1 x9_1).f1), .int .i64 ((rd_T39 l1 x9_1).f2), .int .i64 ((rd_T39 l1 x9_1).f3.f0), .int .i64 0, .slice none 0 0]) ?_ 4 _ rfl; (with_reducible repeat (first | refine blk_drewN ?_ _ | refine blk_drew ?_ | refine blk_alloc ?_ _)); refine blk_put (cs := #[.int .i64 ((rd_T39 l1 x9_1).f0), .int .i64 ((rd_T39 l1 x9_1).f1), .int .i64 ((rd_T39 l1 x9_1).f2), .int .i64 0, .int .i64 0, .slice none 0 0]) ?_ 3 _ rfl; (with_reducible repeat (first | refine blk_drewN ?_ _ | refine blk_drew ?_ | refine blk_alloc ?_ _)); refine blk_put (cs := #[.int .i64 ((rd_T39 l1 x9_1).f0), .int .i64 ((rd_T39 l1 x9_1).f1), .int .i64 0, .int .i64 0, .int .i64 0, .slice none 0 0]) ?_ 2 _ rfl; (with_reducible repeat (first | refine blk_drewN ?_ _ | refine blk_drew ?_ | refine blk_alloc ?_ _)); refine blk_put (cs := #[.int .i64 ((rd_T39 l1 x9_1).f0), .int .i64 0, .int .i64 0, .int .i64 0, .int .i64 0, .slice none 0 0]) ?_ 1 _ rfl; (with_reducible repeat (first | refine blk_drewN ?_ _ | refine blk_drew ?_ | refine blk_alloc ?_ _)); refine blk_put (cs := #[.int .i64 0, .int .i64 0, .int .i64 0, .int .i64 0, .int .i64 0, .slice none 0 0]) ?_ 0 _ rfl; (with_reducible repeat (first | refine blk_drewN ?_ _ | refine blk_drew ?_ | refine blk_alloc ?_ _)); exact BK214.out⟩
              have n6_ : Aside0 (Below w.heap.size w ((((((w12.setCell ⟨gb214, 0, none⟩ (.int .i64 ((rd_T39 l1 x9_1).f0))).setCell ⟨gb214, 1, none⟩ (.int .i64 ((rd_T39 l1 x9_1).f1))).setCell ⟨gb214, 2, none⟩ (.int .i64 ((rd_T39 l1 x9_1).f2))).setCell ⟨gb214, 3, none⟩ (.int .i64 ((rd_T39 l1 x9_1).f3.f0))).setCell ⟨gb214, 4, none⟩ (.int .i64 ((rd_T39 l1 x9_1).f3.f1))).setCell ⟨gb214, 5, none⟩ (.slice A213_5 ((rd_T39 l1 x9_1).f3.f2).length c213_5))) := ⟨by repeat (first | (with_reducible first | exact HB.out | apply below_alloc | apply pw_below_drewN | apply below_drew1 | refine below_set ?_ GE211.out | refine below_set ?_ GE212.out | refine below_set ?_ GE214.out) | exact HB.out)⟩
              (try clear HO_7)
              (try clear HO_212005)
              (try clear HL213_5)
              (try clear BK211)
              (try clear BK212)
              (try clear BK214)
              (try clear HB)
              generalize ((((((w12.setCell ⟨gb214, 0, none⟩ (.int .i64 ((rd_T39 l1 x9_1).f0))).setCell ⟨gb214, 1, none⟩ (.int .i64 ((rd_T39 l1 x9_1).f1))).setCell ⟨gb214, 2, none⟩ (.int .i64 ((rd_T39 l1 x9_1).f2))).setCell ⟨gb214, 3, none⟩ (.int .i64 ((rd_T39 l1 x9_1).f3.f0))).setCell ⟨gb214, 4, none⟩ (.int .i64 ((rd_T39 l1 x9_1).f3.f1))).setCell ⟨gb214, 5, none⟩ (.slice A213_5 ((rd_T39 l1 x9_1).f3.f2).length c213_5)) = w16 at n0_ n1_ n2_ n3_ n4_ n5_ n6_ ⊢
              have HO_7 := n0_
              have HO_212005 := n1_
              have HL213_5 := n2_
              have BK211 := n3_
              have BK212 := n4_
              have BK214 := n5_
              have HB := n6_
              clear n0_ n1_ n2_ n3_ n4_ n5_ n6_
              have n0_ := Aside0.mk (Kd.V_drew HO_7.out)
              have n1_ := Aside0.mk (Kd.V_drew HO_212005.out)
              have n2_ := Aside0.mk (Kd.V_drew HL213_5.out)
              have n3_ := Aside0.mk (blk_drew BK211.out)
              have n4_ := Aside0.mk (blk_drew BK212.out)
              have n5_ := Aside0.mk (blk_drew BK214.out)
              have n6_ := Aside0.mk (below_drew1 HB.out)
              clear HO_7
              clear HO_212005
              clear HL213_5
              clear BK211
              clear BK212
              clear BK214
              clear HB
              have HO_7 := n0_
              have HO_212005 := n1_
              have HL213_5 := n2_
              have BK211 := n3_
              have BK212 := n4_
              have BK214 := n5_
              have HB := n6_
              clear n0_ n1_ n2_ n3_ n4_ n5_ n6_
              refine start_ (n := 13) (S := fun w' => w'.cell? ⟨gb214, 0, none⟩ = some (.int .i64 ((rd_T39 l1 x9_1).f0)) ∧ w'.cell? ⟨gb214, 1, none⟩ = some (.int .i64 ((rd_T39 l1 x9_1).f1)) ∧ w'.cell? ⟨gb214, 2, none⟩ = some (.int .i64 ((rd_T39 l1 x9_1).f2)) ∧ w'.cell? ⟨gb214, 3, none⟩ = some (.int .i64 ((rd_T39 l1 x9_1).f3.f0)) ∧ w'.cell? ⟨gb214, 4, none⟩ = some (.int .i64 ((rd_T39 l1 x9_1).f3.f1)) ∧ w'.cell? ⟨gb214, 5, none⟩ = some (.slice A213_5 ((rd_T39 l1 x9_1).f3.f2).length c213_5) ∧ w'.cell? ⟨gb211, 0, none⟩ = some (.int .i64 x212000_1) ∧ w'.cell? ⟨gb211, 1, none⟩ = some (.int .i64 x212001_1) ∧ w'.cell? ⟨gb211, 2, none⟩ = some (.int .i64 x212002_1) ∧ w'.cell? ⟨gb211, 3, none⟩ = some (.int .i64 x212003_1) ∧ w'.cell? ⟨gb211, 4, none⟩ = some (.int .i64 x212004_1) ∧ w'.cell? ⟨gb211, 5, none⟩ = some (u212005)) (ds := []) #[false, false, false, false, false, false, false, false, false, false, false, false, false] (by kernel_rfl) rfl rfl ⟨(blk_cell BK214.out 0).trans rfl, (blk_cell BK214.out 1).trans rfl, (blk_cell BK214.out 2).trans rfl, (blk_cell BK214.out 3).trans rfl, (blk_cell BK214.out 4).trans rfl, (blk_cell BK214.out 5).trans rfl, (blk_cell BK211.out 0).trans rfl, (blk_cell BK211.out 1).trans rfl, (blk_cell BK211.out 2).trans rfl, (blk_cell BK211.out 3).trans rfl, (blk_cell BK211.out 4).trans rfl, (blk_cell BK211.out 5).trans rfl⟩ (fun hHeld => ?_); refine with_tabW session_oldest.tab4 session_oldest.bits4 (fun HT_ HW_ => ?_)
              generalize w16.drew = w17 at HO_7 HO_212005 HL213_5 BK211 BK212 BK214 HB hHeld ⊢
              refine pure_ (i := 0) (N := some 13) (v := ?_) (a' := ?_) (dn_ 1 13) rfl rfl (any_of HT_.out (by kernel_rfl)) (fun _ _ _ h => h) (Or.inl ⟨by rfl, ?_⟩) ?_ ?_
              rotate_left
              · intro w'
                go_simp
                with_reducible rfl
              rotate_left
              · simp only [Act.put, List.setIfInBounds_toArray, List.set_cons_zero, List.set_cons_succ, i64_w, i32_w]
                rfl
              refine pure_ (i := 2) (N := some 15) (v := ?_) (a' := ?_) #[true, false, true, false, false, false, false, false, false, false, false, false, false] rfl rfl (any_of HT_.out (by kernel_rfl)) (fun _ _ _ h => h) (Or.inl ⟨by rfl, ?_⟩) ?_ ?_
              rotate_left
              · intro w'
                go_simp
                with_reducible rfl
              rotate_left
              · simp only [Act.put, List.setIfInBounds_toArray, List.set_cons_zero, List.set_cons_succ, i64_w, i32_w]
                rfl
              refine pure_ (i := 5) (N := some 18) (v := ?_) (a' := ?_) #[true, false, true, false, false, true, false, false, false, false, false, false, false] rfl rfl (any_of HT_.out (by kernel_rfl)) (fun _ _ _ h => h) (Or.inl ⟨by rfl, ?_⟩) ?_ ?_
              rotate_left
              · intro w'
                go_simp
                with_reducible rfl
              rotate_left
              · simp only [Act.put, List.setIfInBounds_toArray, List.set_cons_zero, List.set_cons_succ, i64_w, i32_w]
                rfl
              refine pure_ (i := 7) (N := some 20) (v := ?_) (a' := ?_) #[true, false, true, false, false, true, false, true, false, false, false, false, false] rfl rfl (any_of HT_.out (by kernel_rfl)) (fun _ _ _ h => h) (Or.inl ⟨by rfl, ?_⟩) ?_ ?_
              rotate_left
              · intro w'
                go_simp
                with_reducible rfl
              rotate_left
              · simp only [Act.put, List.setIfInBounds_toArray, List.set_cons_zero, List.set_cons_succ, i64_w, i32_w]
                rfl
              refine take_ (i := 1) (N := some 14) (v := ?_) (a' := ?_) #[true, true, true, false, false, true, false, true, false, false, false, false, false] rfl rfl (take_ofW HT_.out HW_.out (by kernel_rfl)) (fun _ _ _ h => h) (Or.inl ⟨by rfl, ?_⟩) hHeld ?_ ?_
              rotate_left
              · rintro w' ⟨s0, s1, s2, s3, s4, s5, s6, s7, s8, s9, s10, s11⟩
                go_simp
                with_reducible rfl
              rotate_left
              · simp only [Act.put, List.setIfInBounds_toArray, List.set_cons_zero, List.set_cons_succ, i64_w, i32_w]
                rfl
              refine take_ (i := 3) (N := some 16) (v := ?_) (a' := ?_) #[true, true, true, true, false, true, false, true, false, false, false, false, false] rfl rfl (take_ofW HT_.out HW_.out (by kernel_rfl)) (fun _ _ _ h => h) (Or.inl ⟨by rfl, ?_⟩) hHeld ?_ ?_
              rotate_left
              · rintro w' ⟨s0, s1, s2, s3, s4, s5, s6, s7, s8, s9, s10, s11⟩
                go_simp
                with_reducible rfl
              rotate_left
              · simp only [Act.put, List.setIfInBounds_toArray, List.set_cons_zero, List.set_cons_succ, i64_w, i32_w]
                rfl
              refine take_ (i := 6) (N := some 19) (v := ?_) (a' := ?_) #[true, true, true, true, false, true, true, true, false, false, false, false, false] rfl rfl (take_ofW HT_.out HW_.out (by kernel_rfl)) (fun _ _ _ h => h) (Or.inl ⟨by rfl, ?_⟩) hHeld ?_ ?_
              rotate_left
              · rintro w' ⟨s0, s1, s2, s3, s4, s5, s6, s7, s8, s9, s10, s11⟩
                go_simp
                with_reducible rfl
              rotate_left
              · simp only [Act.put, List.setIfInBounds_toArray, List.set_cons_zero, List.set_cons_succ, i64_w, i32_w]
                rfl
              refine take_ (i := 8) (N := some 21) (v := ?_) (a' := ?_) #[true, true, true, true, false, true, true, true, true, false, false, false, false] rfl rfl (take_ofW HT_.out HW_.out (by kernel_rfl)) (fun _ _ _ h => h) (Or.inl ⟨by rfl, ?_⟩) hHeld ?_ ?_
              rotate_left
              · rintro w' ⟨s0, s1, s2, s3, s4, s5, s6, s7, s8, s9, s10, s11⟩
                go_simp
                with_reducible rfl
              rotate_left
              · simp only [Act.put, List.setIfInBounds_toArray, List.set_cons_zero, List.set_cons_succ, i64_w, i32_w]
                rfl
              refine one_ (i := 4) (N := some 17) (dn_ 9 13) rfl rfl (one_of HT_.out (by kernel_rfl)) (by decide) (fun K hK => ?_)
              refine goes_ Try.func47 (by kernel_rfl) rfl #[.int .i64 ((rd_T39 l1 x9_1).f2), .int .i64 x212002_1] (by rfl) rfl rfl (by (try simp only [List.map_toArray, List.map_cons, List.map_nil]); first | done | rfl | (simp only [List.length_drop, List.length_take]; rfl)) ?_
              with_reducible refine (cmp_Compare_int.calls ((rd_T39 l1 x9_1).f2) x212002_1 t215 _ A8.out).mono ?_
              rintro e w' ⟨rfl, ⟨nd, rfl⟩⟩
              refine ⟨_, rfl, ?_⟩
              refine hK.out _ _ ⟨(blk_cell BK214.out 0).trans rfl, (blk_cell BK214.out 1).trans rfl, (blk_cell BK214.out 2).trans rfl, (blk_cell BK214.out 3).trans rfl, (blk_cell BK214.out 4).trans rfl, (blk_cell BK214.out 5).trans rfl, (blk_cell BK211.out 0).trans rfl, (blk_cell BK211.out 1).trans rfl, (blk_cell BK211.out 2).trans rfl, (blk_cell BK211.out 3).trans rfl, (blk_cell BK211.out 4).trans rfl, (blk_cell BK211.out 5).trans rfl⟩ (fun hHeld => ?_)
              clear hK K
              refine norm_ (a' := ?_) ?_ ?_
              rotate_left
              · show Act.put _ (some 17) _ = _
                simp only [Act.put, List.setIfInBounds_toArray, List.set_cons_zero, List.set_cons_succ, i64_w, i32_w]
                rfl
              refine one_ (i := 9) (N := some 22) (dn_ 10 13) rfl rfl (one_of HT_.out (by kernel_rfl)) (by decide) (fun K hK => ?_)
              refine goes_ Try.func47 (by kernel_rfl) rfl #[.int .i64 ((rd_T39 l1 x9_1).f0), .int .i64 x212000_1] (by rfl) rfl rfl (by (try simp only [List.map_toArray, List.map_cons, List.map_nil]); first | done | rfl | (simp only [List.length_drop, List.length_take]; rfl)) ?_
              with_reducible refine (cmp_Compare_int.calls ((rd_T39 l1 x9_1).f0) x212000_1 t216 _ A9.out).mono ?_
              rintro e w' ⟨rfl, ⟨nd, rfl⟩⟩
              refine ⟨_, rfl, ?_⟩
              refine hK.out _ _ ⟨(blk_cell BK214.out 0).trans rfl, (blk_cell BK214.out 1).trans rfl, (blk_cell BK214.out 2).trans rfl, (blk_cell BK214.out 3).trans rfl, (blk_cell BK214.out 4).trans rfl, (blk_cell BK214.out 5).trans rfl, (blk_cell BK211.out 0).trans rfl, (blk_cell BK211.out 1).trans rfl, (blk_cell BK211.out 2).trans rfl, (blk_cell BK211.out 3).trans rfl, (blk_cell BK211.out 4).trans rfl, (blk_cell BK211.out 5).trans rfl⟩ (fun hHeld => ?_)
              clear hK K
              refine norm_ (a' := ?_) ?_ ?_
              rotate_left
              · show Act.put _ (some 22) _ = _
                simp only [Act.put, List.setIfInBounds_toArray, List.set_cons_zero, List.set_cons_succ, i64_w, i32_w]
                rfl
              refine one_ (i := 10) (N := some 23) (dn_ 11 13) rfl rfl (one_of HT_.out (by kernel_rfl)) (by decide) (fun K hK => ?_)
              refine Kd.R_lit_step (Kd.int .i64) _ 3 ?hg (N := 23) ?hd (xs := ([t215, t216] : List Int)) (inner := [.int .i64 t215, .int .i64 t216]) (ok := fun _ => True) (okp := fun _ => True) ?hr ?hp (fun _ hk => hk) trivial (Below.refl _ _) (Nat.le_refl _) (by simp) ?_; (case hd => rfl); (case hg => rfl); (case hr => first | (go_simp; done) | (go_simp; rfl)); (case hp => exact (Reps.one (show Kd.M (Kd.int .i64) _ _ _ t215 [.int .i64 t215] from rfl) (Reps.one (show Kd.M (Kd.int .i64) _ _ _ t216 [.int .i64 t216] from rfl) (Reps.none _ _))))
              intro v218 w18 ho19 hb hg_ hnew_
              clear hg_ hnew_
              (first | rw [← Ny217.out] at ho19 | (simp only [Int.reduceToNat] at ho19; rw [← Ny217.out] at ho19))
              have n0_ := Aside0.mk (Kd.V_elder' (by (with_reducible repeat (first | apply Kd.V_alloc | apply Kd.V_drewN | apply Kd.V_drew)); exact HO_7.out) (Kd.R_base ho19) hb)
              have n1_ := Aside0.mk (Kd.V_elder' (by (with_reducible repeat (first | apply Kd.V_alloc | apply Kd.V_drewN | apply Kd.V_drew)); exact HO_212005.out) (Kd.R_base ho19) hb)
              have n2_ := Aside0.mk (Kd.V_elder' (by (with_reducible repeat (first | apply Kd.V_alloc | apply Kd.V_drewN | apply Kd.V_drew)); exact HL213_5.out) (Kd.R_base ho19) hb)
              have n3_ := Aside0.mk (Kd.R_lower (Kd.R_newM (M := fun k_ => (w.heap.size ≤ k_)) ho19 (below_size (by repeat (first | (with_reducible first | exact HB.out | apply below_alloc | apply pw_below_drewN | apply below_drew1 | refine below_set ?_ GE211.out | refine below_set ?_ GE212.out | refine below_set ?_ GE214.out) | exact HB.out))) (fun k_ h_ => h_)) (below_size (by repeat (first | (with_reducible first | exact HB.out | apply below_alloc | apply pw_below_drewN | apply below_drew1 | refine below_set ?_ GE211.out | refine below_set ?_ GE212.out | refine below_set ?_ GE214.out) | exact HB.out))))
              have n4_ := Aside0.mk (blk_below (g := gb211) (o := .cells #[.int .i64 x212000_1, .int .i64 x212001_1, .int .i64 x212002_1, .int .i64 x212003_1, .int .i64 x212004_1, u212005] 39 (0, 0)) (by (with_reducible repeat (first | refine blk_drewN ?_ _ | refine blk_drew ?_ | refine blk_alloc ?_ _)); exact BK211.out) hb)
              have n5_ := Aside0.mk (blk_below (g := gb212) (o := .cells #[.int .i64 0, .int .i64 0, .int .i64 0, .int .i64 0, .int .i64 0, .slice none 0 0] 39 (0, 0)) (by (with_reducible repeat (first | refine blk_drewN ?_ _ | refine blk_drew ?_ | refine blk_alloc ?_ _)); exact BK212.out) hb)
              have n6_ := Aside0.mk (blk_below (g := gb214) (o := .cells #[.int .i64 ((rd_T39 l1 x9_1).f0), .int .i64 ((rd_T39 l1 x9_1).f1), .int .i64 ((rd_T39 l1 x9_1).f2), .int .i64 ((rd_T39 l1 x9_1).f3.f0), .int .i64 ((rd_T39 l1 x9_1).f3.f1), .slice A213_5 ((rd_T39 l1 x9_1).f3.f2).length c213_5] 39 (0, 0)) (by (with_reducible repeat (first | refine blk_drewN ?_ _ | refine blk_drew ?_ | refine blk_alloc ?_ _)); exact BK214.out) hb)
              have n7_ := Aside0.mk (below_step (by repeat (first | (with_reducible first | exact HB.out | apply below_alloc | apply pw_below_drewN | apply below_drew1 | refine below_set ?_ GE211.out | refine below_set ?_ GE212.out | refine below_set ?_ GE214.out) | exact HB.out)) hb)
              clear HO_7
              clear HO_212005
              clear HL213_5
              clear BK211
              clear BK212
              clear BK214
              clear HB
              have HO_7 := n0_
              have HO_212005 := n1_
              have HL213_5 := n2_
              have HO219 := n3_
              have BK211 := n4_
              have BK212 := n5_
              have BK214 := n6_
              have HB := n7_
              clear n0_ n1_ n2_ n3_ n4_ n5_ n6_ n7_
              clear hb ho19
              obtain ⟨Ao20, co20, eo20⟩ := Kd.R_slice HO219.out
              (first | subst eo20 | (injection eo20 with f1_ f2_ f3_; have f4_ := f1_.symm; have f5_ := f3_.symm; clear f1_ f2_ f3_; subst f4_; subst f5_))
              refine hK.out _ _ ⟨(blk_cell BK214.out 0).trans rfl, (blk_cell BK214.out 1).trans rfl, (blk_cell BK214.out 2).trans rfl, (blk_cell BK214.out 3).trans rfl, (blk_cell BK214.out 4).trans rfl, (blk_cell BK214.out 5).trans rfl, (blk_cell BK211.out 0).trans rfl, (blk_cell BK211.out 1).trans rfl, (blk_cell BK211.out 2).trans rfl, (blk_cell BK211.out 3).trans rfl, (blk_cell BK211.out 4).trans rfl, (blk_cell BK211.out 5).trans rfl⟩ (fun hHeld => ?_)
              clear hK K
              refine norm_ (a' := ?_) ?_ ?_
              rotate_left
              · show Act.put _ (some 23) _ = _
                simp only [Act.put, List.setIfInBounds_toArray, List.set_cons_zero, List.set_cons_succ, i64_w, i32_w]
                rfl
              refine one_ (i := 11) (N := some 24) (dn_ 12 13) rfl rfl (one_of HT_.out (by kernel_rfl)) (by decide) (fun K hK => ?_)
              refine goes_ Try.func46 (by kernel_rfl) rfl #[.slice Ao20 y217.length co20] (by rfl) rfl rfl (by (try simp only [List.map_toArray, List.map_cons, List.map_nil]); first | done | rfl | (simp only [List.length_drop, List.length_take]; rfl)) ?_
              with_reducible refine (cmp_Or_int.calls k1 _ _ y217 t220 _ ?side1 ?side2 A10.out).mono ?_
              (case side1 => repeat (first | exact (Kd.R_reads' HO219.out).2.2 | (with_reducible refine Kd.C_alloc ?_ _) | (with_reducible refine Kd.C_drewN ?_ _) | (with_reducible refine Kd.C_drew ?_)))
              (case side2 => exact (Kd.R_reads' HO219.out).2.1)
              rintro e w' ⟨rfl, ⟨nd, rfl⟩⟩
              refine ⟨_, rfl, ?_⟩
              refine hK.out _ _ ⟨(blk_cell BK214.out 0).trans rfl, (blk_cell BK214.out 1).trans rfl, (blk_cell BK214.out 2).trans rfl, (blk_cell BK214.out 3).trans rfl, (blk_cell BK214.out 4).trans rfl, (blk_cell BK214.out 5).trans rfl, (blk_cell BK211.out 0).trans rfl, (blk_cell BK211.out 1).trans rfl, (blk_cell BK211.out 2).trans rfl, (blk_cell BK211.out 3).trans rfl, (blk_cell BK211.out 4).trans rfl, (blk_cell BK211.out 5).trans rfl⟩ (fun hHeld => ?_)
              clear hK K
              refine norm_ (a' := ?_) ?_ ?_
              rotate_left
              · show Act.put _ (some 24) _ = _
                simp only [Act.put, List.setIfInBounds_toArray, List.set_cons_zero, List.set_cons_succ, i64_w, i32_w]
                rfl
              refine pure_ (i := 12) (N := some 25) (v := ?_) (a' := ?_) #[true, true, true, true, true, true, true, true, true, true, true, true, true] rfl rfl (any_of HT_.out (by kernel_rfl)) (fun _ _ _ h => h) (Or.inl ⟨by rfl, ?_⟩) ?_ ?_
              rotate_left
              · intro w'
                go_simp
                with_reducible rfl
              rotate_left
              · simp only [Act.put, List.setIfInBounds_toArray, List.set_cons_zero, List.set_cons_succ, i64_w, i32_w]
                rfl
              refine done_ (done_of HT_.out (by kernel_rfl)) ?_
              have hcz21_0 : w18.cell? ⟨gb214, 0, none⟩ = some (.int .i64 ((rd_T39 l1 x9_1).f0)) := (blk_cell BK214.out 0).trans rfl
              have hcz21_1 : w18.cell? ⟨gb214, 1, none⟩ = some (.int .i64 ((rd_T39 l1 x9_1).f1)) := (blk_cell BK214.out 1).trans rfl
              have hcz21_2 : w18.cell? ⟨gb214, 2, none⟩ = some (.int .i64 ((rd_T39 l1 x9_1).f2)) := (blk_cell BK214.out 2).trans rfl
              have hcz21_3 : w18.cell? ⟨gb214, 3, none⟩ = some (.int .i64 ((rd_T39 l1 x9_1).f3.f0)) := (blk_cell BK214.out 3).trans rfl
              have hcz21_4 : w18.cell? ⟨gb214, 4, none⟩ = some (.int .i64 ((rd_T39 l1 x9_1).f3.f1)) := (blk_cell BK214.out 4).trans rfl
              have hcz21_5 : w18.cell? ⟨gb214, 5, none⟩ = some (.slice A213_5 ((rd_T39 l1 x9_1).f3.f2).length c213_5) := (blk_cell BK214.out 5).trans rfl
              have hfz21_0 := blk_frozen BK214.out 0
              have hfz21_1 := blk_frozen BK214.out 1
              have hfz21_2 := blk_frozen BK214.out 2
              have hfz21_3 := blk_frozen BK214.out 3
              have hfz21_4 := blk_frozen BK214.out 4
              have hfz21_5 := blk_frozen BK214.out 5
              have hnb22 := NB211_212.out
              have hnc22 := NB212_211.out
              have hcz23_0 : w18.cell? ⟨gb211, 0, none⟩ = some (.int .i64 x212000_1) := (blk_cell BK211.out 0).trans rfl
              have hcz23_1 : w18.cell? ⟨gb211, 1, none⟩ = some (.int .i64 x212001_1) := (blk_cell BK211.out 1).trans rfl
              have hcz23_2 : w18.cell? ⟨gb211, 2, none⟩ = some (.int .i64 x212002_1) := (blk_cell BK211.out 2).trans rfl
              have hcz23_3 : w18.cell? ⟨gb211, 3, none⟩ = some (.int .i64 x212003_1) := (blk_cell BK211.out 3).trans rfl
              have hcz23_4 : w18.cell? ⟨gb211, 4, none⟩ = some (.int .i64 x212004_1) := (blk_cell BK211.out 4).trans rfl
              have hcz23_5 : w18.cell? ⟨gb211, 5, none⟩ = some (u212005) := (blk_cell BK211.out 5).trans rfl
              have hfz23_0 := blk_frozen BK211.out 0
              have hfz23_1 := blk_frozen BK211.out 1
              have hfz23_2 := blk_frozen BK211.out 2
              have hfz23_3 := blk_frozen BK211.out 3
              have hfz23_4 := blk_frozen BK211.out 4
              have hfz23_5 := blk_frozen BK211.out 5
              try go_wp2
              go_roundg k1
              case measure => have := HK1.out; omega
              case rel => exact ⟨(wrap64 (x9_1 + 1)), ((rd_T39 l1 x9_1).f0), ((rd_T39 l1 x9_1).f1), ((rd_T39 l1 x9_1).f2), ((rd_T39 l1 x9_1).f3.f0), ((rd_T39 l1 x9_1).f3.f1), ((rd_T39 l1 x9_1).f3.f2), (.slice A213_5 ((rd_T39 l1 x9_1).f3.f2).length c213_5), (by first | rfl | (simp; done) | (simp [*]; done)), H', ⟨by have := HK1.out; omega⟩, ⟨by (with_reducible repeat (first | apply Kd.V_alloc | apply Kd.V_drewN | apply Kd.V_drew)); exact Kd.V_mono (Kd.V_far (p := ⟨gb211, 5, none⟩) (Kd.V_far (p := ⟨gb211, 4, none⟩) (Kd.V_far (p := ⟨gb211, 3, none⟩) (Kd.V_far (p := ⟨gb211, 2, none⟩) (Kd.V_far (p := ⟨gb211, 1, none⟩) (Kd.V_far (p := ⟨gb211, 0, none⟩) (Kd.V_mono HO_7.out (fun k_ hk => (⟨hk, hk.1.2.1⟩ : _ ∧ k_ ≠ gb211))) (fun _ hk => hk.2) (.int .i64 ((rd_T39 l1 x9_1).f0))) (fun _ hk => hk.2) (.int .i64 ((rd_T39 l1 x9_1).f1))) (fun _ hk => hk.2) (.int .i64 ((rd_T39 l1 x9_1).f2))) (fun _ hk => hk.2) (.int .i64 ((rd_T39 l1 x9_1).f3.f0))) (fun _ hk => hk.2) (.int .i64 ((rd_T39 l1 x9_1).f3.f1))) (fun _ hk => hk.2) (.slice A213_5 ((rd_T39 l1 x9_1).f3.f2).length c213_5)) (fun _ hk => ⟨hk.1.1.1, ⟨hk.1.1.2.1, hk.1.1.2.2.1⟩⟩)⟩, ⟨by (with_reducible repeat (first | apply Kd.V_alloc | apply Kd.V_drewN | apply Kd.V_drew)); exact Kd.V_mono (Kd.V_far (p := ⟨gb211, 5, none⟩) (Kd.V_far (p := ⟨gb211, 4, none⟩) (Kd.V_far (p := ⟨gb211, 3, none⟩) (Kd.V_far (p := ⟨gb211, 2, none⟩) (Kd.V_far (p := ⟨gb211, 1, none⟩) (Kd.V_far (p := ⟨gb211, 0, none⟩) (Kd.V_mono HL213_5.out (fun k_ hk => (⟨hk, hk.1.2.1⟩ : _ ∧ k_ ≠ gb211))) (fun _ hk => hk.2) (.int .i64 ((rd_T39 l1 x9_1).f0))) (fun _ hk => hk.2) (.int .i64 ((rd_T39 l1 x9_1).f1))) (fun _ hk => hk.2) (.int .i64 ((rd_T39 l1 x9_1).f2))) (fun _ hk => hk.2) (.int .i64 ((rd_T39 l1 x9_1).f3.f0))) (fun _ hk => hk.2) (.int .i64 ((rd_T39 l1 x9_1).f3.f1))) (fun _ hk => hk.2) (.slice A213_5 ((rd_T39 l1 x9_1).f3.f2).length c213_5)) (fun _ hk => ⟨hk.1.1.1, ⟨hk.1.1.2.1, hk.1.1.2.2.1⟩⟩)⟩, ⟨by (with_reducible repeat (first | refine blk_drewN ?_ _ | refine blk_drew ?_ | refine blk_alloc ?_ _)); refine blk_put (cs := #[.int .i64 ((rd_T39 l1 x9_1).f0), .int .i64 ((rd_T39 l1 x9_1).f1), .int .i64 ((rd_T39 l1 x9_1).f2), .int .i64 ((rd_T39 l1 x9_1).f3.f0), .int .i64 ((rd_T39 l1 x9_1).f3.f1), u212005]) ?_ 5 _ rfl; (with_reducible repeat (first | refine blk_drewN ?_ _ | refine blk_drew ?_ | refine blk_alloc ?_ _)); refine blk_put (cs := #[.int .i64 ((rd_T39 l1 x9_1).f0), .int .i64 ((rd_T39 l1 x9_1).f1), .int .i64 ((rd_T39 l1 x9_1).f2), .int .i64 ((rd_T39 l1 x9_1).f3.f0), .int .i64 x212004_1, u212005]) ?_ 4 _ rfl; (with_reducible repeat (first | refine blk_drewN ?_ _ | refine blk_drew ?_ | refine blk_alloc ?_ _)); refine blk_put (cs := #[.int .i64 ((rd_T39 l1 x9_1).f0), .int .i64 ((rd_T39 l1 x9_1).f1), .int .i64 ((rd_T39 l1 x9_1).f2), .int .i64 x212003_1, .int .i64 x212004_1, u212005]) ?_ 3 _ rfl; (with_reducible repeat (first | refine blk_drewN ?_ _ | refine blk_drew ?_ | refine blk_alloc ?_ _)); refine blk_put (cs := #[.int .i64 ((rd_T39 l1 x9_1).f0), .int .i64 ((rd_T39 l1 x9_1).f1), .int .i64 x212002_1, .int .i64 x212003_1, .int .i64 x212004_1, u212005]) ?_ 2 _ rfl; (with_reducible repeat (first | refine blk_drewN ?_ _ | refine blk_drew ?_ | refine blk_alloc ?_ _)); refine blk_put (cs := #[.int .i64 ((rd_T39 l1 x9_1).f0), .int .i64 x212001_1, .int .i64 x212002_1, .int .i64 x212003_1, .int .i64 x212004_1, u212005]) ?_ 1 _ rfl; (with_reducible repeat (first | refine blk_drewN ?_ _ | refine blk_drew ?_ | refine blk_alloc ?_ _)); refine blk_put (cs := #[.int .i64 x212000_1, .int .i64 x212001_1, .int .i64 x212002_1, .int .i64 x212003_1, .int .i64 x212004_1, u212005]) ?_ 0 _ rfl; (with_reducible repeat (first | refine blk_drewN ?_ _ | refine blk_drew ?_ | refine blk_alloc ?_ _)); exact BK211.out⟩, ⟨by (with_reducible repeat (first | refine blk_drewN ?_ _ | refine blk_drew ?_ | refine blk_alloc ?_ _)); refine blk_far ?_ NB212_211.out _; (with_reducible repeat (first | refine blk_drewN ?_ _ | refine blk_drew ?_ | refine blk_alloc ?_ _)); refine blk_far ?_ NB212_211.out _; (with_reducible repeat (first | refine blk_drewN ?_ _ | refine blk_drew ?_ | refine blk_alloc ?_ _)); refine blk_far ?_ NB212_211.out _; (with_reducible repeat (first | refine blk_drewN ?_ _ | refine blk_drew ?_ | refine blk_alloc ?_ _)); refine blk_far ?_ NB212_211.out _; (with_reducible repeat (first | refine blk_drewN ?_ _ | refine blk_drew ?_ | refine blk_alloc ?_ _)); refine blk_far ?_ NB212_211.out _; (with_reducible repeat (first | refine blk_drewN ?_ _ | refine blk_drew ?_ | refine blk_alloc ?_ _)); refine blk_far ?_ NB212_211.out _; (with_reducible repeat (first | refine blk_drewN ?_ _ | refine blk_drew ?_ | refine blk_alloc ?_ _)); exact BK212.out⟩, ⟨by repeat (first | (with_reducible first | exact HB.out | apply below_alloc | apply pw_below_drewN | apply below_drew1 | refine below_set ?_ GE211.out | refine below_set ?_ GE212.out | refine below_set ?_ GE214.out) | exact HB.out)⟩⟩
            · rw [if_neg c11] at H
              have c11b0 : decide (t220 < 0) = false := decide_eq_false c11
              clear c11
              have H' := Aside0.mk H
              clear H
              have p213 : 0 ≤ (x9_1 : Int) := of_decide_eq_true (by first | (with_reducible assumption) | assumption)
              have q213 : x9_1 < (l1.length : Int) := of_decide_eq_true (by first | (with_reducible assumption) | assumption)
              obtain ⟨ad213, A213_5, c213_5, e213, hx213_0, hx213_1, hx213_2, hx213_3, hx213_4, hx213_5, hl213_5, hi213_5⟩ := at_T39 (Kd.V_reads' HO_7.out).2.2 x9_1 p213 q213
              cases e213
              obtain ⟨ce213, hce213, hMe213, hcc213⟩ := Kd.V_get HO_7.out z39 x9_1 p213 (by first | exact q213 | exact of_decide_eq_true (by first | (with_reducible assumption) | assumption) | (have e_ := (Kd.V_reads' HO_7.out).1; omega))
              obtain ⟨ua213_5, uc213_5, rfl, ul213_5, ge213_5⟩ := k39_openF hMe213
              have hv213_5 := hcc213 5 _ rfl
              rw [add_field _ _ 5 (by omega)] at hv213_5
              replace hv213_5 := Option.some.inj (hv213_5.symm.trans hx213_5)
              injection hv213_5 with hva_ hvn_ hvc_
              rw [hva_] at ge213_5
              rw [hvc_] at ul213_5
              have HL213_5 := Aside0.mk (show Kd.V Kd.string 9 _ w.heap.size _ _ ((rd_T39 l1 x9_1).f3.f2) from Kd.V_mk ul213_5 ge213_5)
              clear hva_ hvn_ hvc_ ge213_5 ul213_5
              clear hcc213 hce213
              have HR213_5 := Aside0.mk hi213_5
              have HC213_5 := Aside0.mk hl213_5
              clear hi213_5 hl213_5
              replace p213 := eq_true p213
              replace q213 := eq_true q213
              try go_wp2_with (first | ((with_reducible refine gate_dst (N := 6) rfl ?_); refine box_event ?hg (N := 6) ?hd (cs := #[.int .i64 0, .int .i64 0, .int .i64 0, .int .i64 0, .int .i64 0, .slice none 0 0]) (t := 39) ?hr ?_; (case hd => rfl); (case hg => rfl); (case hr => first | (go_simp; done) | (go_simp; rfl)); intro gb214 hg w24 hbox hb; have n0_ := Aside0.mk (Kd.V_below (Kd.V_elderB (by (with_reducible repeat (first | apply Kd.V_alloc | apply Kd.V_drewN | apply Kd.V_drew)); exact HO_7.out) gb214 (Nat.le_of_eq hg.symm)) hb); have n1_ := Aside0.mk (Kd.V_below (Kd.V_elderB (by (with_reducible repeat (first | apply Kd.V_alloc | apply Kd.V_drewN | apply Kd.V_drew)); exact HO_212005.out) gb214 (Nat.le_of_eq hg.symm)) hb); have n2_ := Aside0.mk (Kd.V_below (Kd.V_elderB (by (with_reducible repeat (first | apply Kd.V_alloc | apply Kd.V_drewN | apply Kd.V_drew)); exact HL213_5.out) gb214 (Nat.le_of_eq hg.symm)) hb); have n3_ := Aside0.mk (blk_below (g := gb211) (o := .cells #[.int .i64 x212000_1, .int .i64 x212001_1, .int .i64 x212002_1, .int .i64 x212003_1, .int .i64 x212004_1, u212005] 39 (0, 0)) (by (with_reducible repeat (first | refine blk_drewN ?_ _ | refine blk_drew ?_ | refine blk_alloc ?_ _)); exact BK211.out) hb); have n4_ := Aside0.mk (blk_below (g := gb212) (o := .cells #[.int .i64 0, .int .i64 0, .int .i64 0, .int .i64 0, .int .i64 0, .slice none 0 0] 39 (0, 0)) (by (with_reducible repeat (first | refine blk_drewN ?_ _ | refine blk_drew ?_ | refine blk_alloc ?_ _)); exact BK212.out) hb); have n5_ := Aside0.mk (Kd.C_below (by repeat (first | (with_reducible exact HR213_5.out) | (with_reducible refine Kd.C_alloc ?_ _) | (with_reducible refine Kd.C_drewN ?_ _) | (with_reducible refine Kd.C_drew ?_) | exact HR213_5.out)) hb); have n6_ := Aside0.mk (below_step (by repeat (first | (with_reducible first | exact HB.out | apply below_alloc | apply pw_below_drewN | apply below_drew1 | refine below_set ?_ GE211.out | refine below_set ?_ GE212.out) | exact HB.out)) hb); have n7_ := Aside0.mk (hbox); have n8_ := Aside0.mk ((by rw [hg]; exact (below_size (by repeat (first | (with_reducible first | exact HB.out | apply below_alloc | apply pw_below_drewN | apply below_drew1 | refine below_set ?_ GE211.out | refine below_set ?_ GE212.out) | exact HB.out))) : w.heap.size ≤ gb214)); have n9_ := Aside0.mk ((by rw [hg]; exact (below_size (by repeat (first | (with_reducible first | exact HB.out | apply below_alloc | apply pw_below_drewN | apply below_drew1 | refine below_set ?_ GE211.out | refine below_set ?_ GE212.out) | exact HB.out))) : w.heap.size ≤ gb214)); have n10_ := Aside0.mk ((by rw [hg]; exact Nat.ne_of_lt (blk_lt (g := gb211) (o := .cells #[.int .i64 x212000_1, .int .i64 x212001_1, .int .i64 x212002_1, .int .i64 x212003_1, .int .i64 x212004_1, u212005] 39 (0, 0)) (by (with_reducible repeat (first | refine blk_drewN ?_ _ | refine blk_drew ?_ | refine blk_alloc ?_ _)); exact BK211.out)) : gb211 ≠ gb214)); have n11_ := Aside0.mk ((by rw [hg]; exact Nat.ne_of_gt (blk_lt (g := gb211) (o := .cells #[.int .i64 x212000_1, .int .i64 x212001_1, .int .i64 x212002_1, .int .i64 x212003_1, .int .i64 x212004_1, u212005] 39 (0, 0)) (by (with_reducible repeat (first | refine blk_drewN ?_ _ | refine blk_drew ?_ | refine blk_alloc ?_ _)); exact BK211.out)) : gb214 ≠ gb211)); have n12_ := Aside0.mk ((by rw [hg]; exact Nat.ne_of_lt (blk_lt (g := gb212) (o := .cells #[.int .i64 0, .int .i64 0, .int .i64 0, .int .i64 0, .int .i64 0, .slice none 0 0] 39 (0, 0)) (by (with_reducible repeat (first | refine blk_drewN ?_ _ | refine blk_drew ?_ | refine blk_alloc ?_ _)); exact BK212.out)) : gb212 ≠ gb214)); have n13_ := Aside0.mk ((by rw [hg]; exact Nat.ne_of_gt (blk_lt (g := gb212) (o := .cells #[.int .i64 0, .int .i64 0, .int .i64 0, .int .i64 0, .int .i64 0, .slice none 0 0] 39 (0, 0)) (by (with_reducible repeat (first | refine blk_drewN ?_ _ | refine blk_drew ?_ | refine blk_alloc ?_ _)); exact BK212.out)) : gb214 ≠ gb212)); clear HO_7; clear HO_212005; clear HL213_5; clear BK211; clear BK212; clear HR213_5; clear HB; have HO_7 := n0_; have HO_212005 := n1_; have HL213_5 := n2_; have BK211 := n3_; have BK212 := n4_; have HR213_5 := n5_; have HB := n6_; have BK214 := n7_; have GW214 := n8_; have GE214 := n9_; have NB211_214 := n10_; have NB214_211 := n11_; have NB212_214 := n12_; have NB214_212 := n13_; clear n0_ n1_ n2_ n3_ n4_ n5_ n6_ n7_ n8_ n9_ n10_ n11_ n12_ n13_; clear hb hbox hg; have hnb25 := NB214_211.out; have hnc25 := NB211_214.out; have hnb26 := NB214_212.out; have hnc26 := NB212_214.out; have hcz27_0 : w24.cell? ⟨gb214, 0, none⟩ = some (.int .i64 0) := (blk_cell BK214.out 0).trans rfl; have hcz27_1 : w24.cell? ⟨gb214, 1, none⟩ = some (.int .i64 0) := (blk_cell BK214.out 1).trans rfl; have hcz27_2 : w24.cell? ⟨gb214, 2, none⟩ = some (.int .i64 0) := (blk_cell BK214.out 2).trans rfl; have hcz27_3 : w24.cell? ⟨gb214, 3, none⟩ = some (.int .i64 0) := (blk_cell BK214.out 3).trans rfl; have hcz27_4 : w24.cell? ⟨gb214, 4, none⟩ = some (.int .i64 0) := (blk_cell BK214.out 4).trans rfl; have hcz27_5 : w24.cell? ⟨gb214, 5, none⟩ = some (.slice none 0 0) := (blk_cell BK214.out 5).trans rfl; have hfz27_0 := blk_frozen BK214.out 0; have hfz27_1 := blk_frozen BK214.out 1; have hfz27_2 := blk_frozen BK214.out 2; have hfz27_3 := blk_frozen BK214.out 3; have hfz27_4 := blk_frozen BK214.out 4; have hfz27_5 := blk_frozen BK214.out 5))
              have n0_ : Aside0 (Kd.V k39 39 ((((((w24.setCell ⟨gb214, 0, none⟩ (.int .i64 ((rd_T39 l1 x9_1).f0))).setCell ⟨gb214, 1, none⟩ (.int .i64 ((rd_T39 l1 x9_1).f1))).setCell ⟨gb214, 2, none⟩ (.int .i64 ((rd_T39 l1 x9_1).f2))).setCell ⟨gb214, 3, none⟩ (.int .i64 ((rd_T39 l1 x9_1).f3.f0))).setCell ⟨gb214, 4, none⟩ (.int .i64 ((rd_T39 l1 x9_1).f3.f1))).setCell ⟨gb214, 5, none⟩ (.slice A213_5 ((rd_T39 l1 x9_1).f3.f2).length c213_5)) w.heap.size (fun k_ => ((P0_5_ k_ ∨ P1_ k_) ∨ w.heap.size ≤ k_) ∧ k_ ≠ gb211 ∧ k_ ≠ gb212 ∧ k_ ≠ gb214) (.slice (some ad213) l1.length c1) l1) := ⟨by (with_reducible repeat (first | apply Kd.V_alloc | apply Kd.V_drewN | apply Kd.V_drew)); exact Kd.V_mono (Kd.V_far (p := ⟨gb214, 5, none⟩) (Kd.V_far (p := ⟨gb214, 4, none⟩) (Kd.V_far (p := ⟨gb214, 3, none⟩) (Kd.V_far (p := ⟨gb214, 2, none⟩) (Kd.V_far (p := ⟨gb214, 1, none⟩) (Kd.V_far (p := ⟨gb214, 0, none⟩) (Kd.V_mono HO_7.out (fun k_ hk => (⟨hk, hk.2⟩ : _ ∧ k_ ≠ gb214))) (fun _ hk => hk.2) (.int .i64 ((rd_T39 l1 x9_1).f0))) (fun _ hk => hk.2) (.int .i64 ((rd_T39 l1 x9_1).f1))) (fun _ hk => hk.2) (.int .i64 ((rd_T39 l1 x9_1).f2))) (fun _ hk => hk.2) (.int .i64 ((rd_T39 l1 x9_1).f3.f0))) (fun _ hk => hk.2) (.int .i64 ((rd_T39 l1 x9_1).f3.f1))) (fun _ hk => hk.2) (.slice A213_5 ((rd_T39 l1 x9_1).f3.f2).length c213_5)) (fun _ hk => ⟨hk.1.1.1, ⟨hk.1.1.2.1, ⟨hk.1.1.2.2, hk.1.2⟩⟩⟩)⟩
              have n1_ : Aside0 (Kd.V Kd.string 9 ((((((w24.setCell ⟨gb214, 0, none⟩ (.int .i64 ((rd_T39 l1 x9_1).f0))).setCell ⟨gb214, 1, none⟩ (.int .i64 ((rd_T39 l1 x9_1).f1))).setCell ⟨gb214, 2, none⟩ (.int .i64 ((rd_T39 l1 x9_1).f2))).setCell ⟨gb214, 3, none⟩ (.int .i64 ((rd_T39 l1 x9_1).f3.f0))).setCell ⟨gb214, 4, none⟩ (.int .i64 ((rd_T39 l1 x9_1).f3.f1))).setCell ⟨gb214, 5, none⟩ (.slice A213_5 ((rd_T39 l1 x9_1).f3.f2).length c213_5)) w.heap.size (fun k_ => ((P0_5_ k_ ∨ P1_ k_) ∨ w.heap.size ≤ k_) ∧ k_ ≠ gb211 ∧ k_ ≠ gb212 ∧ k_ ≠ gb214) u212005 x212005_1) := ⟨by (with_reducible repeat (first | apply Kd.V_alloc | apply Kd.V_drewN | apply Kd.V_drew)); exact Kd.V_mono (Kd.V_far (p := ⟨gb214, 5, none⟩) (Kd.V_far (p := ⟨gb214, 4, none⟩) (Kd.V_far (p := ⟨gb214, 3, none⟩) (Kd.V_far (p := ⟨gb214, 2, none⟩) (Kd.V_far (p := ⟨gb214, 1, none⟩) (Kd.V_far (p := ⟨gb214, 0, none⟩) (Kd.V_mono HO_212005.out (fun k_ hk => (⟨hk, hk.2⟩ : _ ∧ k_ ≠ gb214))) (fun _ hk => hk.2) (.int .i64 ((rd_T39 l1 x9_1).f0))) (fun _ hk => hk.2) (.int .i64 ((rd_T39 l1 x9_1).f1))) (fun _ hk => hk.2) (.int .i64 ((rd_T39 l1 x9_1).f2))) (fun _ hk => hk.2) (.int .i64 ((rd_T39 l1 x9_1).f3.f0))) (fun _ hk => hk.2) (.int .i64 ((rd_T39 l1 x9_1).f3.f1))) (fun _ hk => hk.2) (.slice A213_5 ((rd_T39 l1 x9_1).f3.f2).length c213_5)) (fun _ hk => ⟨hk.1.1.1, ⟨hk.1.1.2.1, ⟨hk.1.1.2.2, hk.1.2⟩⟩⟩)⟩
              have n2_ : Aside0 (Kd.V Kd.string 9 ((((((w24.setCell ⟨gb214, 0, none⟩ (.int .i64 ((rd_T39 l1 x9_1).f0))).setCell ⟨gb214, 1, none⟩ (.int .i64 ((rd_T39 l1 x9_1).f1))).setCell ⟨gb214, 2, none⟩ (.int .i64 ((rd_T39 l1 x9_1).f2))).setCell ⟨gb214, 3, none⟩ (.int .i64 ((rd_T39 l1 x9_1).f3.f0))).setCell ⟨gb214, 4, none⟩ (.int .i64 ((rd_T39 l1 x9_1).f3.f1))).setCell ⟨gb214, 5, none⟩ (.slice A213_5 ((rd_T39 l1 x9_1).f3.f2).length c213_5)) w.heap.size (fun k_ => ((P0_5_ k_ ∨ P1_ k_) ∨ w.heap.size ≤ k_) ∧ k_ ≠ gb211 ∧ k_ ≠ gb212 ∧ k_ ≠ gb214) (.slice A213_5 ((rd_T39 l1 x9_1).f3.f2).length c213_5) ((rd_T39 l1 x9_1).f3.f2)) := ⟨by (with_reducible repeat (first | apply Kd.V_alloc | apply Kd.V_drewN | apply Kd.V_drew)); exact Kd.V_mono (Kd.V_far (p := ⟨gb214, 5, none⟩) (Kd.V_far (p := ⟨gb214, 4, none⟩) (Kd.V_far (p := ⟨gb214, 3, none⟩) (Kd.V_far (p := ⟨gb214, 2, none⟩) (Kd.V_far (p := ⟨gb214, 1, none⟩) (Kd.V_far (p := ⟨gb214, 0, none⟩) (Kd.V_mono HL213_5.out (fun k_ hk => (⟨hk, hk.2⟩ : _ ∧ k_ ≠ gb214))) (fun _ hk => hk.2) (.int .i64 ((rd_T39 l1 x9_1).f0))) (fun _ hk => hk.2) (.int .i64 ((rd_T39 l1 x9_1).f1))) (fun _ hk => hk.2) (.int .i64 ((rd_T39 l1 x9_1).f2))) (fun _ hk => hk.2) (.int .i64 ((rd_T39 l1 x9_1).f3.f0))) (fun _ hk => hk.2) (.int .i64 ((rd_T39 l1 x9_1).f3.f1))) (fun _ hk => hk.2) (.slice A213_5 ((rd_T39 l1 x9_1).f3.f2).length c213_5)) (fun _ hk => ⟨hk.1.1.1, ⟨hk.1.1.2.1, ⟨hk.1.1.2.2, hk.1.2⟩⟩⟩)⟩
              have n3_ : Aside0 (((((((w24.setCell ⟨gb214, 0, none⟩ (.int .i64 ((rd_T39 l1 x9_1).f0))).setCell ⟨gb214, 1, none⟩ (.int .i64 ((rd_T39 l1 x9_1).f1))).setCell ⟨gb214, 2, none⟩ (.int .i64 ((rd_T39 l1 x9_1).f2))).setCell ⟨gb214, 3, none⟩ (.int .i64 ((rd_T39 l1 x9_1).f3.f0))).setCell ⟨gb214, 4, none⟩ (.int .i64 ((rd_T39 l1 x9_1).f3.f1))).setCell ⟨gb214, 5, none⟩ (.slice A213_5 ((rd_T39 l1 x9_1).f3.f2).length c213_5)).heap[gb211]? = some (.cells #[.int .i64 x212000_1, .int .i64 x212001_1, .int .i64 x212002_1, .int .i64 x212003_1, .int .i64 x212004_1, u212005] 39 (0, 0))) := ⟨by (with_reducible repeat (first | refine blk_drewN ?_ _ | refine blk_drew ?_ | refine blk_alloc ?_ _)); refine blk_far ?_ NB211_214.out _; (with_reducible repeat (first | refine blk_drewN ?_ _ | refine blk_drew ?_ | refine blk_alloc ?_ _)); refine blk_far ?_ NB211_214.out _; (with_reducible repeat (first | refine blk_drewN ?_ _ | refine blk_drew ?_ | refine blk_alloc ?_ _)); refine blk_far ?_ NB211_214.out _; (with_reducible repeat (first | refine blk_drewN ?_ _ | refine blk_drew ?_ | refine blk_alloc ?_ _)); refine blk_far ?_ NB211_214.out _; (with_reducible repeat (first | refine blk_drewN ?_ _ | refine blk_drew ?_ | refine blk_alloc ?_ _)); refine blk_far ?_ NB211_214.out _; (with_reducible repeat (first | refine blk_drewN ?_ _ | refine blk_drew ?_ | refine blk_alloc ?_ _)); refine blk_far ?_ NB211_214.out _; (with_reducible repeat (first | refine blk_drewN ?_ _ | refine blk_drew ?_ | refine blk_alloc ?_ _)); exact BK211.out⟩
              have n4_ : Aside0 (((((((w24.setCell ⟨gb214, 0, none⟩ (.int .i64 ((rd_T39 l1 x9_1).f0))).setCell ⟨gb214, 1, none⟩ (.int .i64 ((rd_T39 l1 x9_1).f1))).setCell ⟨gb214, 2, none⟩ (.int .i64 ((rd_T39 l1 x9_1).f2))).setCell ⟨gb214, 3, none⟩ (.int .i64 ((rd_T39 l1 x9_1).f3.f0))).setCell ⟨gb214, 4, none⟩ (.int .i64 ((rd_T39 l1 x9_1).f3.f1))).setCell ⟨gb214, 5, none⟩ (.slice A213_5 ((rd_T39 l1 x9_1).f3.f2).length c213_5)).heap[gb212]? = some (.cells #[.int .i64 0, .int .i64 0, .int .i64 0, .int .i64 0, .int .i64 0, .slice none 0 0] 39 (0, 0))) := ⟨by (with_reducible repeat (first | refine blk_drewN ?_ _ | refine blk_drew ?_ | refine blk_alloc ?_ _)); refine blk_far ?_ NB212_214.out _; (with_reducible repeat (first | refine blk_drewN ?_ _ | refine blk_drew ?_ | refine blk_alloc ?_ _)); refine blk_far ?_ NB212_214.out _; (with_reducible repeat (first | refine blk_drewN ?_ _ | refine blk_drew ?_ | refine blk_alloc ?_ _)); refine blk_far ?_ NB212_214.out _; (with_reducible repeat (first | refine blk_drewN ?_ _ | refine blk_drew ?_ | refine blk_alloc ?_ _)); refine blk_far ?_ NB212_214.out _; (with_reducible repeat (first | refine blk_drewN ?_ _ | refine blk_drew ?_ | refine blk_alloc ?_ _)); refine blk_far ?_ NB212_214.out _; (with_reducible repeat (first | refine blk_drewN ?_ _ | refine blk_drew ?_ | refine blk_alloc ?_ _)); refine blk_far ?_ NB212_214.out _; (with_reducible repeat (first | refine blk_drewN ?_ _ | refine blk_drew ?_ | refine blk_alloc ?_ _)); exact BK212.out⟩
              have n5_ : Aside0 (((((((w24.setCell ⟨gb214, 0, none⟩ (.int .i64 ((rd_T39 l1 x9_1).f0))).setCell ⟨gb214, 1, none⟩ (.int .i64 ((rd_T39 l1 x9_1).f1))).setCell ⟨gb214, 2, none⟩ (.int .i64 ((rd_T39 l1 x9_1).f2))).setCell ⟨gb214, 3, none⟩ (.int .i64 ((rd_T39 l1 x9_1).f3.f0))).setCell ⟨gb214, 4, none⟩ (.int .i64 ((rd_T39 l1 x9_1).f3.f1))).setCell ⟨gb214, 5, none⟩ (.slice A213_5 ((rd_T39 l1 x9_1).f3.f2).length c213_5)).heap[gb214]? = some (.cells #[.int .i64 ((rd_T39 l1 x9_1).f0), .int .i64 ((rd_T39 l1 x9_1).f1), .int .i64 ((rd_T39 l1 x9_1).f2), .int .i64 ((rd_T39 l1 x9_1).f3.f0), .int .i64 ((rd_T39 l1 x9_1).f3.f1), .slice A213_5 ((rd_T39 l1 x9_1).f3.f2).length c213_5] 39 (0, 0))) := ⟨by (with_reducible repeat (first | refine blk_drewN ?_ _ | refine blk_drew ?_ | refine blk_alloc ?_ _)); refine blk_put (cs := #[.int .i64 ((rd_T39 l1 x9_1).f0), .int .i64 ((rd_T39 l1 x9_1).f1), .int .i64 ((rd_T39 l1 x9_1).f2), .int .i64 ((rd_T39 l1 x9_1).f3.f0), .int .i64 ((rd_T39 l1 x9_1).f3.f1), .slice none 0 0]) ?_ 5 _ rfl; (with_reducible repeat (first | refine blk_drewN ?_ _ | refine blk_drew ?_ | refine blk_alloc ?_ _)); refine blk_put (cs := #[.int .i64 ((rd_T39 l1 x9_1).f0), .int .i64 ((rd_T39 l1 x9_1).f1), .int .i64 ((rd_T39 l1 x9_1).f2), .int .i64 ((rd_T39 l1 x9_1).f3.f0), .int .i64 0, .slice none 0 0]) ?_ 4 _ rfl; (with_reducible repeat (first | refine blk_drewN ?_ _ | refine blk_drew ?_ | refine blk_alloc ?_ _)); refine blk_put (cs := #[.int .i64 ((rd_T39 l1 x9_1).f0), .int .i64 ((rd_T39 l1 x9_1).f1), .int .i64 ((rd_T39 l1 x9_1).f2), .int .i64 0, .int .i64 0, .slice none 0 0]) ?_ 3 _ rfl; (with_reducible repeat (first | refine blk_drewN ?_ _ | refine blk_drew ?_ | refine blk_alloc ?_ _)); refine blk_put (cs := #[.int .i64 ((rd_T39 l1 x9_1).f0), .int .i64 ((rd_T39 l1 x9_1).f1), .int .i64 0, .int .i64 0, .int .i64 0, .slice none 0 0]) ?_ 2 _ rfl; (with_reducible repeat (first | refine blk_drewN ?_ _ | refine blk_drew ?_ | refine blk_alloc ?_ _)); refine blk_put (cs := #[.int .i64 ((rd_T39 l1 x9_1).f0), .int .i64 0, .int .i64 0, .int .i64 0, .int .i64 0, .slice none 0 0]) ?_ 1 _ rfl; (with_reducible repeat (first | refine blk_drewN ?_ _ | refine blk_drew ?_ | refine blk_alloc ?_ _)); refine blk_put (cs := #[.int .i64 0, .int .i64 0, .int .i64 0, .int .i64 0, .int .i64 0, .slice none 0 0]) ?_ 0 _ rfl; (with_reducible repeat (first | refine blk_drewN ?_ _ | refine blk_drew ?_ | refine blk_alloc ?_ _)); exact BK214.out⟩
              have n6_ : Aside0 (Below w.heap.size w ((((((w24.setCell ⟨gb214, 0, none⟩ (.int .i64 ((rd_T39 l1 x9_1).f0))).setCell ⟨gb214, 1, none⟩ (.int .i64 ((rd_T39 l1 x9_1).f1))).setCell ⟨gb214, 2, none⟩ (.int .i64 ((rd_T39 l1 x9_1).f2))).setCell ⟨gb214, 3, none⟩ (.int .i64 ((rd_T39 l1 x9_1).f3.f0))).setCell ⟨gb214, 4, none⟩ (.int .i64 ((rd_T39 l1 x9_1).f3.f1))).setCell ⟨gb214, 5, none⟩ (.slice A213_5 ((rd_T39 l1 x9_1).f3.f2).length c213_5))) := ⟨by repeat (first | (with_reducible first | exact HB.out | apply below_alloc | apply pw_below_drewN | apply below_drew1 | refine below_set ?_ GE211.out | refine below_set ?_ GE212.out | refine below_set ?_ GE214.out) | exact HB.out)⟩
              (try clear HO_7)
              (try clear HO_212005)
              (try clear HL213_5)
              (try clear BK211)
              (try clear BK212)
              (try clear BK214)
              (try clear HB)
              generalize ((((((w24.setCell ⟨gb214, 0, none⟩ (.int .i64 ((rd_T39 l1 x9_1).f0))).setCell ⟨gb214, 1, none⟩ (.int .i64 ((rd_T39 l1 x9_1).f1))).setCell ⟨gb214, 2, none⟩ (.int .i64 ((rd_T39 l1 x9_1).f2))).setCell ⟨gb214, 3, none⟩ (.int .i64 ((rd_T39 l1 x9_1).f3.f0))).setCell ⟨gb214, 4, none⟩ (.int .i64 ((rd_T39 l1 x9_1).f3.f1))).setCell ⟨gb214, 5, none⟩ (.slice A213_5 ((rd_T39 l1 x9_1).f3.f2).length c213_5)) = w28 at n0_ n1_ n2_ n3_ n4_ n5_ n6_ ⊢
              have HO_7 := n0_
              have HO_212005 := n1_
              have HL213_5 := n2_
              have BK211 := n3_
              have BK212 := n4_
              have BK214 := n5_
              have HB := n6_
              clear n0_ n1_ n2_ n3_ n4_ n5_ n6_
              have n0_ := Aside0.mk (Kd.V_drew HO_7.out)
              have n1_ := Aside0.mk (Kd.V_drew HO_212005.out)
              have n2_ := Aside0.mk (Kd.V_drew HL213_5.out)
              have n3_ := Aside0.mk (blk_drew BK211.out)
              have n4_ := Aside0.mk (blk_drew BK212.out)
              have n5_ := Aside0.mk (blk_drew BK214.out)
              have n6_ := Aside0.mk (below_drew1 HB.out)
              clear HO_7
              clear HO_212005
              clear HL213_5
              clear BK211
              clear BK212
              clear BK214
              clear HB
              have HO_7 := n0_
              have HO_212005 := n1_
              have HL213_5 := n2_
              have BK211 := n3_
              have BK212 := n4_
              have BK214 := n5_
              have HB := n6_
              clear n0_ n1_ n2_ n3_ n4_ n5_ n6_
              refine start_ (n := 13) (S := fun w' => w'.cell? ⟨gb214, 0, none⟩ = some (.int .i64 ((rd_T39 l1 x9_1).f0)) ∧ w'.cell? ⟨gb214, 1, none⟩ = some (.int .i64 ((rd_T39 l1 x9_1).f1)) ∧ w'.cell? ⟨gb214, 2, none⟩ = some (.int .i64 ((rd_T39 l1 x9_1).f2)) ∧ w'.cell? ⟨gb214, 3, none⟩ = some (.int .i64 ((rd_T39 l1 x9_1).f3.f0)) ∧ w'.cell? ⟨gb214, 4, none⟩ = some (.int .i64 ((rd_T39 l1 x9_1).f3.f1)) ∧ w'.cell? ⟨gb214, 5, none⟩ = some (.slice A213_5 ((rd_T39 l1 x9_1).f3.f2).length c213_5) ∧ w'.cell? ⟨gb211, 0, none⟩ = some (.int .i64 x212000_1) ∧ w'.cell? ⟨gb211, 1, none⟩ = some (.int .i64 x212001_1) ∧ w'.cell? ⟨gb211, 2, none⟩ = some (.int .i64 x212002_1) ∧ w'.cell? ⟨gb211, 3, none⟩ = some (.int .i64 x212003_1) ∧ w'.cell? ⟨gb211, 4, none⟩ = some (.int .i64 x212004_1) ∧ w'.cell? ⟨gb211, 5, none⟩ = some (u212005)) (ds := []) #[false, false, false, false, false, false, false, false, false, false, false, false, false] (by kernel_rfl) rfl rfl ⟨(blk_cell BK214.out 0).trans rfl, (blk_cell BK214.out 1).trans rfl, (blk_cell BK214.out 2).trans rfl, (blk_cell BK214.out 3).trans rfl, (blk_cell BK214.out 4).trans rfl, (blk_cell BK214.out 5).trans rfl, (blk_cell BK211.out 0).trans rfl, (blk_cell BK211.out 1).trans rfl, (blk_cell BK211.out 2).trans rfl, (blk_cell BK211.out 3).trans rfl, (blk_cell BK211.out 4).trans rfl, (blk_cell BK211.out 5).trans rfl⟩ (fun hHeld => ?_); refine with_tabW session_oldest.tab4 session_oldest.bits4 (fun HT_ HW_ => ?_)
              generalize w28.drew = w29 at HO_7 HO_212005 HL213_5 BK211 BK212 BK214 HB hHeld ⊢
              refine pure_ (i := 0) (N := some 13) (v := ?_) (a' := ?_) (dn_ 1 13) rfl rfl (any_of HT_.out (by kernel_rfl)) (fun _ _ _ h => h) (Or.inl ⟨by rfl, ?_⟩) ?_ ?_
              rotate_left
              · intro w'
                go_simp
                with_reducible rfl
              rotate_left
              · simp only [Act.put, List.setIfInBounds_toArray, List.set_cons_zero, List.set_cons_succ, i64_w, i32_w]
                rfl
              refine pure_ (i := 2) (N := some 15) (v := ?_) (a' := ?_) #[true, false, true, false, false, false, false, false, false, false, false, false, false] rfl rfl (any_of HT_.out (by kernel_rfl)) (fun _ _ _ h => h) (Or.inl ⟨by rfl, ?_⟩) ?_ ?_
              rotate_left
              · intro w'
                go_simp
                with_reducible rfl
              rotate_left
              · simp only [Act.put, List.setIfInBounds_toArray, List.set_cons_zero, List.set_cons_succ, i64_w, i32_w]
                rfl
              refine pure_ (i := 5) (N := some 18) (v := ?_) (a' := ?_) #[true, false, true, false, false, true, false, false, false, false, false, false, false] rfl rfl (any_of HT_.out (by kernel_rfl)) (fun _ _ _ h => h) (Or.inl ⟨by rfl, ?_⟩) ?_ ?_
              rotate_left
              · intro w'
                go_simp
                with_reducible rfl
              rotate_left
              · simp only [Act.put, List.setIfInBounds_toArray, List.set_cons_zero, List.set_cons_succ, i64_w, i32_w]
                rfl
              refine pure_ (i := 7) (N := some 20) (v := ?_) (a' := ?_) #[true, false, true, false, false, true, false, true, false, false, false, false, false] rfl rfl (any_of HT_.out (by kernel_rfl)) (fun _ _ _ h => h) (Or.inl ⟨by rfl, ?_⟩) ?_ ?_
              rotate_left
              · intro w'
                go_simp
                with_reducible rfl
              rotate_left
              · simp only [Act.put, List.setIfInBounds_toArray, List.set_cons_zero, List.set_cons_succ, i64_w, i32_w]
                rfl
              refine take_ (i := 1) (N := some 14) (v := ?_) (a' := ?_) #[true, true, true, false, false, true, false, true, false, false, false, false, false] rfl rfl (take_ofW HT_.out HW_.out (by kernel_rfl)) (fun _ _ _ h => h) (Or.inl ⟨by rfl, ?_⟩) hHeld ?_ ?_
              rotate_left
              · rintro w' ⟨s0, s1, s2, s3, s4, s5, s6, s7, s8, s9, s10, s11⟩
                go_simp
                with_reducible rfl
              rotate_left
              · simp only [Act.put, List.setIfInBounds_toArray, List.set_cons_zero, List.set_cons_succ, i64_w, i32_w]
                rfl
              refine take_ (i := 3) (N := some 16) (v := ?_) (a' := ?_) #[true, true, true, true, false, true, false, true, false, false, false, false, false] rfl rfl (take_ofW HT_.out HW_.out (by kernel_rfl)) (fun _ _ _ h => h) (Or.inl ⟨by rfl, ?_⟩) hHeld ?_ ?_
              rotate_left
              · rintro w' ⟨s0, s1, s2, s3, s4, s5, s6, s7, s8, s9, s10, s11⟩
                go_simp
                with_reducible rfl
              rotate_left
              · simp only [Act.put, List.setIfInBounds_toArray, List.set_cons_zero, List.set_cons_succ, i64_w, i32_w]
                rfl
              refine take_ (i := 6) (N := some 19) (v := ?_) (a' := ?_) #[true, true, true, true, false, true, true, true, false, false, false, false, false] rfl rfl (take_ofW HT_.out HW_.out (by kernel_rfl)) (fun _ _ _ h => h) (Or.inl ⟨by rfl, ?_⟩) hHeld ?_ ?_
              rotate_left
              · rintro w' ⟨s0, s1, s2, s3, s4, s5, s6, s7, s8, s9, s10, s11⟩
                go_simp
                with_reducible rfl
              rotate_left
              · simp only [Act.put, List.setIfInBounds_toArray, List.set_cons_zero, List.set_cons_succ, i64_w, i32_w]
                rfl
              refine take_ (i := 8) (N := some 21) (v := ?_) (a' := ?_) #[true, true, true, true, false, true, true, true, true, false, false, false, false] rfl rfl (take_ofW HT_.out HW_.out (by kernel_rfl)) (fun _ _ _ h => h) (Or.inl ⟨by rfl, ?_⟩) hHeld ?_ ?_
              rotate_left
              · rintro w' ⟨s0, s1, s2, s3, s4, s5, s6, s7, s8, s9, s10, s11⟩
                go_simp
                with_reducible rfl
              rotate_left
              · simp only [Act.put, List.setIfInBounds_toArray, List.set_cons_zero, List.set_cons_succ, i64_w, i32_w]
                rfl
              refine one_ (i := 4) (N := some 17) (dn_ 9 13) rfl rfl (one_of HT_.out (by kernel_rfl)) (by decide) (fun K hK => ?_)
              refine goes_ Try.func47 (by kernel_rfl) rfl #[.int .i64 ((rd_T39 l1 x9_1).f2), .int .i64 x212002_1] (by rfl) rfl rfl (by (try simp only [List.map_toArray, List.map_cons, List.map_nil]); first | done | rfl | (simp only [List.length_drop, List.length_take]; rfl)) ?_
              with_reducible refine (cmp_Compare_int.calls ((rd_T39 l1 x9_1).f2) x212002_1 t215 _ A8.out).mono ?_
              rintro e w' ⟨rfl, ⟨nd, rfl⟩⟩
              refine ⟨_, rfl, ?_⟩
              refine hK.out _ _ ⟨(blk_cell BK214.out 0).trans rfl, (blk_cell BK214.out 1).trans rfl, (blk_cell BK214.out 2).trans rfl, (blk_cell BK214.out 3).trans rfl, (blk_cell BK214.out 4).trans rfl, (blk_cell BK214.out 5).trans rfl, (blk_cell BK211.out 0).trans rfl, (blk_cell BK211.out 1).trans rfl, (blk_cell BK211.out 2).trans rfl, (blk_cell BK211.out 3).trans rfl, (blk_cell BK211.out 4).trans rfl, (blk_cell BK211.out 5).trans rfl⟩ (fun hHeld => ?_)
              clear hK K
              refine norm_ (a' := ?_) ?_ ?_
              rotate_left
              · show Act.put _ (some 17) _ = _
                simp only [Act.put, List.setIfInBounds_toArray, List.set_cons_zero, List.set_cons_succ, i64_w, i32_w]
                rfl
              refine one_ (i := 9) (N := some 22) (dn_ 10 13) rfl rfl (one_of HT_.out (by kernel_rfl)) (by decide) (fun K hK => ?_)
              refine goes_ Try.func47 (by kernel_rfl) rfl #[.int .i64 ((rd_T39 l1 x9_1).f0), .int .i64 x212000_1] (by rfl) rfl rfl (by (try simp only [List.map_toArray, List.map_cons, List.map_nil]); first | done | rfl | (simp only [List.length_drop, List.length_take]; rfl)) ?_
              with_reducible refine (cmp_Compare_int.calls ((rd_T39 l1 x9_1).f0) x212000_1 t216 _ A9.out).mono ?_
              rintro e w' ⟨rfl, ⟨nd, rfl⟩⟩
              refine ⟨_, rfl, ?_⟩
              refine hK.out _ _ ⟨(blk_cell BK214.out 0).trans rfl, (blk_cell BK214.out 1).trans rfl, (blk_cell BK214.out 2).trans rfl, (blk_cell BK214.out 3).trans rfl, (blk_cell BK214.out 4).trans rfl, (blk_cell BK214.out 5).trans rfl, (blk_cell BK211.out 0).trans rfl, (blk_cell BK211.out 1).trans rfl, (blk_cell BK211.out 2).trans rfl, (blk_cell BK211.out 3).trans rfl, (blk_cell BK211.out 4).trans rfl, (blk_cell BK211.out 5).trans rfl⟩ (fun hHeld => ?_)
              clear hK K
              refine norm_ (a' := ?_) ?_ ?_
              rotate_left
              · show Act.put _ (some 22) _ = _
                simp only [Act.put, List.setIfInBounds_toArray, List.set_cons_zero, List.set_cons_succ, i64_w, i32_w]
                rfl
              refine one_ (i := 10) (N := some 23) (dn_ 11 13) rfl rfl (one_of HT_.out (by kernel_rfl)) (by decide) (fun K hK => ?_)
              refine Kd.R_lit_step (Kd.int .i64) _ 3 ?hg (N := 23) ?hd (xs := ([t215, t216] : List Int)) (inner := [.int .i64 t215, .int .i64 t216]) (ok := fun _ => True) (okp := fun _ => True) ?hr ?hp (fun _ hk => hk) trivial (Below.refl _ _) (Nat.le_refl _) (by simp) ?_; (case hd => rfl); (case hg => rfl); (case hr => first | (go_simp; done) | (go_simp; rfl)); (case hp => exact (Reps.one (show Kd.M (Kd.int .i64) _ _ _ t215 [.int .i64 t215] from rfl) (Reps.one (show Kd.M (Kd.int .i64) _ _ _ t216 [.int .i64 t216] from rfl) (Reps.none _ _))))
              intro v218 w30 ho31 hb hg_ hnew_
              clear hg_ hnew_
              (first | rw [← Ny217.out] at ho31 | (simp only [Int.reduceToNat] at ho31; rw [← Ny217.out] at ho31))
              have n0_ := Aside0.mk (Kd.V_elder' (by (with_reducible repeat (first | apply Kd.V_alloc | apply Kd.V_drewN | apply Kd.V_drew)); exact HO_7.out) (Kd.R_base ho31) hb)
              have n1_ := Aside0.mk (Kd.V_elder' (by (with_reducible repeat (first | apply Kd.V_alloc | apply Kd.V_drewN | apply Kd.V_drew)); exact HO_212005.out) (Kd.R_base ho31) hb)
              have n2_ := Aside0.mk (Kd.V_elder' (by (with_reducible repeat (first | apply Kd.V_alloc | apply Kd.V_drewN | apply Kd.V_drew)); exact HL213_5.out) (Kd.R_base ho31) hb)
              have n3_ := Aside0.mk (Kd.R_lower (Kd.R_newM (M := fun k_ => (w.heap.size ≤ k_)) ho31 (below_size (by repeat (first | (with_reducible first | exact HB.out | apply below_alloc | apply pw_below_drewN | apply below_drew1 | refine below_set ?_ GE211.out | refine below_set ?_ GE212.out | refine below_set ?_ GE214.out) | exact HB.out))) (fun k_ h_ => h_)) (below_size (by repeat (first | (with_reducible first | exact HB.out | apply below_alloc | apply pw_below_drewN | apply below_drew1 | refine below_set ?_ GE211.out | refine below_set ?_ GE212.out | refine below_set ?_ GE214.out) | exact HB.out))))
              have n4_ := Aside0.mk (blk_below (g := gb211) (o := .cells #[.int .i64 x212000_1, .int .i64 x212001_1, .int .i64 x212002_1, .int .i64 x212003_1, .int .i64 x212004_1, u212005] 39 (0, 0)) (by (with_reducible repeat (first | refine blk_drewN ?_ _ | refine blk_drew ?_ | refine blk_alloc ?_ _)); exact BK211.out) hb)
              have n5_ := Aside0.mk (blk_below (g := gb212) (o := .cells #[.int .i64 0, .int .i64 0, .int .i64 0, .int .i64 0, .int .i64 0, .slice none 0 0] 39 (0, 0)) (by (with_reducible repeat (first | refine blk_drewN ?_ _ | refine blk_drew ?_ | refine blk_alloc ?_ _)); exact BK212.out) hb)
              have n6_ := Aside0.mk (blk_below (g := gb214) (o := .cells #[.int .i64 ((rd_T39 l1 x9_1).f0), .int .i64 ((rd_T39 l1 x9_1).f1), .int .i64 ((rd_T39 l1 x9_1).f2), .int .i64 ((rd_T39 l1 x9_1).f3.f0), .int .i64 ((rd_T39 l1 x9_1).f3.f1), .slice A213_5 ((rd_T39 l1 x9_1).f3.f2).length c213_5] 39 (0, 0)) (by (with_reducible repeat (first | refine blk_drewN ?_ _ | refine blk_drew ?_ | refine blk_alloc ?_ _)); exact BK214.out) hb)
              have n7_ := Aside0.mk (below_step (by repeat (first | (with_reducible first | exact HB.out | apply below_alloc | apply pw_below_drewN | apply below_drew1 | refine below_set ?_ GE211.out | refine below_set ?_ GE212.out | refine below_set ?_ GE214.out) | exact HB.out)) hb)
              clear HO_7
              clear HO_212005
              clear HL213_5
              clear BK211
              clear BK212
              clear BK214
              clear HB
              have HO_7 := n0_
              have HO_212005 := n1_
              have HL213_5 := n2_
              have HO219 := n3_
              have BK211 := n4_
              have BK212 := n5_
              have BK214 := n6_
              have HB := n7_
              clear n0_ n1_ n2_ n3_ n4_ n5_ n6_ n7_
              clear hb ho31
              obtain ⟨Ao32, co32, eo32⟩ := Kd.R_slice HO219.out
              (first | subst eo32 | (injection eo32 with f1_ f2_ f3_; have f4_ := f1_.symm; have f5_ := f3_.symm; clear f1_ f2_ f3_; subst f4_; subst f5_))
              refine hK.out _ _ ⟨(blk_cell BK214.out 0).trans rfl, (blk_cell BK214.out 1).trans rfl, (blk_cell BK214.out 2).trans rfl, (blk_cell BK214.out 3).trans rfl, (blk_cell BK214.out 4).trans rfl, (blk_cell BK214.out 5).trans rfl, (blk_cell BK211.out 0).trans rfl, (blk_cell BK211.out 1).trans rfl, (blk_cell BK211.out 2).trans rfl, (blk_cell BK211.out 3).trans rfl, (blk_cell BK211.out 4).trans rfl, (blk_cell BK211.out 5).trans rfl⟩ (fun hHeld => ?_)
              clear hK K
              refine norm_ (a' := ?_) ?_ ?_
              rotate_left
              · show Act.put _ (some 23) _ = _
                simp only [Act.put, List.setIfInBounds_toArray, List.set_cons_zero, List.set_cons_succ, i64_w, i32_w]
                rfl
              refine one_ (i := 11) (N := some 24) (dn_ 12 13) rfl rfl (one_of HT_.out (by kernel_rfl)) (by decide) (fun K hK => ?_)
              refine goes_ Try.func46 (by kernel_rfl) rfl #[.slice Ao32 y217.length co32] (by rfl) rfl rfl (by (try simp only [List.map_toArray, List.map_cons, List.map_nil]); first | done | rfl | (simp only [List.length_drop, List.length_take]; rfl)) ?_
              with_reducible refine (cmp_Or_int.calls k1 _ _ y217 t220 _ ?side1 ?side2 A10.out).mono ?_
              (case side1 => repeat (first | exact (Kd.R_reads' HO219.out).2.2 | (with_reducible refine Kd.C_alloc ?_ _) | (with_reducible refine Kd.C_drewN ?_ _) | (with_reducible refine Kd.C_drew ?_)))
              (case side2 => exact (Kd.R_reads' HO219.out).2.1)
              rintro e w' ⟨rfl, ⟨nd, rfl⟩⟩
              refine ⟨_, rfl, ?_⟩
              refine hK.out _ _ ⟨(blk_cell BK214.out 0).trans rfl, (blk_cell BK214.out 1).trans rfl, (blk_cell BK214.out 2).trans rfl, (blk_cell BK214.out 3).trans rfl, (blk_cell BK214.out 4).trans rfl, (blk_cell BK214.out 5).trans rfl, (blk_cell BK211.out 0).trans rfl, (blk_cell BK211.out 1).trans rfl, (blk_cell BK211.out 2).trans rfl, (blk_cell BK211.out 3).trans rfl, (blk_cell BK211.out 4).trans rfl, (blk_cell BK211.out 5).trans rfl⟩ (fun hHeld => ?_)
              clear hK K
              refine norm_ (a' := ?_) ?_ ?_
              rotate_left
              · show Act.put _ (some 24) _ = _
                simp only [Act.put, List.setIfInBounds_toArray, List.set_cons_zero, List.set_cons_succ, i64_w, i32_w]
                rfl
              refine pure_ (i := 12) (N := some 25) (v := ?_) (a' := ?_) #[true, true, true, true, true, true, true, true, true, true, true, true, true] rfl rfl (any_of HT_.out (by kernel_rfl)) (fun _ _ _ h => h) (Or.inl ⟨by rfl, ?_⟩) ?_ ?_
              rotate_left
              · intro w'
                go_simp
                with_reducible rfl
              rotate_left
              · simp only [Act.put, List.setIfInBounds_toArray, List.set_cons_zero, List.set_cons_succ, i64_w, i32_w]
                rfl
              refine done_ (done_of HT_.out (by kernel_rfl)) ?_
              try go_wp2
              go_roundg k1
              case measure => have := HK1.out; omega
              case rel => exact ⟨(wrap64 (x9_1 + 1)), (x212000_1), (x212001_1), (x212002_1), (x212003_1), (x212004_1), (x212005_1), (u212005), (by first | rfl | (simp; done) | (simp [*]; done)), H', ⟨by have := HK1.out; omega⟩, ⟨by (with_reducible repeat (first | apply Kd.V_alloc | apply Kd.V_drewN | apply Kd.V_drew)); exact Kd.V_mono HO_7.out (fun _ hk => ⟨hk.1.1, ⟨hk.1.2.1, hk.1.2.2.1⟩⟩)⟩, ⟨by (with_reducible repeat (first | apply Kd.V_alloc | apply Kd.V_drewN | apply Kd.V_drew)); exact Kd.V_mono HO_212005.out (fun _ hk => ⟨hk.1.1, ⟨hk.1.2.1, hk.1.2.2.1⟩⟩)⟩, ⟨by (with_reducible repeat (first | refine blk_drewN ?_ _ | refine blk_drew ?_ | refine blk_alloc ?_ _)); exact BK211.out⟩, ⟨by (with_reducible repeat (first | refine blk_drewN ?_ _ | refine blk_drew ?_ | refine blk_alloc ?_ _)); exact BK212.out⟩, ⟨by repeat (first | (with_reducible first | exact HB.out | apply below_alloc | apply pw_below_drewN | apply below_drew1 | refine below_set ?_ GE211.out | refine below_set ?_ GE212.out | refine below_set ?_ GE214.out) | exact HB.out)⟩⟩
          · rw [if_neg c7] at H
            exact absurd H (by simp)
        · rw [if_neg c6] at H
          exact absurd H (by simp)
      · rw [if_neg c5] at H
        have c5b0 : decide (x9_1 < (l1.length : Int)) = false := decide_eq_false c5
        clear c5
        simp only [Option.some.injEq, Prod.mk.injEq] at H
        obtain ⟨rfl, rfl, rfl, rfl, rfl, rfl⟩ := H
        have hnb33 := NB211_212.out
        have hnc33 := NB212_211.out
        have hcz34_0 : wr.cell? ⟨gb211, 0, none⟩ = some (.int .i64 x212000_1) := (blk_cell BK211.out 0).trans rfl
        have hcz34_1 : wr.cell? ⟨gb211, 1, none⟩ = some (.int .i64 x212001_1) := (blk_cell BK211.out 1).trans rfl
        have hcz34_2 : wr.cell? ⟨gb211, 2, none⟩ = some (.int .i64 x212002_1) := (blk_cell BK211.out 2).trans rfl
        have hcz34_3 : wr.cell? ⟨gb211, 3, none⟩ = some (.int .i64 x212003_1) := (blk_cell BK211.out 3).trans rfl
        have hcz34_4 : wr.cell? ⟨gb211, 4, none⟩ = some (.int .i64 x212004_1) := (blk_cell BK211.out 4).trans rfl
        have hcz34_5 : wr.cell? ⟨gb211, 5, none⟩ = some (u212005) := (blk_cell BK211.out 5).trans rfl
        have hfz34_0 := blk_frozen BK211.out 0
        have hfz34_1 := blk_frozen BK211.out 1
        have hfz34_2 := blk_frozen BK211.out 2
        have hfz34_3 := blk_frozen BK211.out 3
        have hfz34_4 := blk_frozen BK211.out 4
        have hfz34_5 := blk_frozen BK211.out 5
        have hcz35_0 : wr.cell? ⟨gb212, 0, none⟩ = some (.int .i64 0) := (blk_cell BK212.out 0).trans rfl
        have hcz35_1 : wr.cell? ⟨gb212, 1, none⟩ = some (.int .i64 0) := (blk_cell BK212.out 1).trans rfl
        have hcz35_2 : wr.cell? ⟨gb212, 2, none⟩ = some (.int .i64 0) := (blk_cell BK212.out 2).trans rfl
        have hcz35_3 : wr.cell? ⟨gb212, 3, none⟩ = some (.int .i64 0) := (blk_cell BK212.out 3).trans rfl
        have hcz35_4 : wr.cell? ⟨gb212, 4, none⟩ = some (.int .i64 0) := (blk_cell BK212.out 4).trans rfl
        have hcz35_5 : wr.cell? ⟨gb212, 5, none⟩ = some (.slice none 0 0) := (blk_cell BK212.out 5).trans rfl
        have hfz35_0 := blk_frozen BK212.out 0
        have hfz35_1 := blk_frozen BK212.out 1
        have hfz35_2 := blk_frozen BK212.out 2
        have hfz35_3 := blk_frozen BK212.out 3
        have hfz35_4 := blk_frozen BK212.out 4
        have hfz35_5 := blk_frozen BK212.out 5
        obtain ⟨Ao36, co36, eo36⟩ := Kd.V_slice HO_212005.out
        subst eo36
        go_wp2
        refine bodyPost_ret (results_cell_row rfl _ _ gb212 39 #[.int .i64 x212000_1, .int .i64 x212001_1, .int .i64 x212002_1, .int .i64 x212003_1, .int .i64 x212004_1, .slice Ao36 x212005_1.length co36] (0, 0) _ rfl (by (with_reducible repeat (first | refine blk_drewN ?_ _ | refine blk_drew ?_ | refine blk_alloc ?_ _)); refine blk_put (cs := #[.int .i64 x212000_1, .int .i64 x212001_1, .int .i64 x212002_1, .int .i64 x212003_1, .int .i64 x212004_1, .slice none 0 0]) ?_ 5 _ rfl; (with_reducible repeat (first | refine blk_drewN ?_ _ | refine blk_drew ?_ | refine blk_alloc ?_ _)); refine blk_put (cs := #[.int .i64 x212000_1, .int .i64 x212001_1, .int .i64 x212002_1, .int .i64 x212003_1, .int .i64 0, .slice none 0 0]) ?_ 4 _ rfl; (with_reducible repeat (first | refine blk_drewN ?_ _ | refine blk_drew ?_ | refine blk_alloc ?_ _)); refine blk_put (cs := #[.int .i64 x212000_1, .int .i64 x212001_1, .int .i64 x212002_1, .int .i64 0, .int .i64 0, .slice none 0 0]) ?_ 3 _ rfl; (with_reducible repeat (first | refine blk_drewN ?_ _ | refine blk_drew ?_ | refine blk_alloc ?_ _)); refine blk_put (cs := #[.int .i64 x212000_1, .int .i64 x212001_1, .int .i64 0, .int .i64 0, .int .i64 0, .slice none 0 0]) ?_ 2 _ rfl; (with_reducible repeat (first | refine blk_drewN ?_ _ | refine blk_drew ?_ | refine blk_alloc ?_ _)); refine blk_put (cs := #[.int .i64 x212000_1, .int .i64 0, .int .i64 0, .int .i64 0, .int .i64 0, .slice none 0 0]) ?_ 1 _ rfl; (with_reducible repeat (first | refine blk_drewN ?_ _ | refine blk_drew ?_ | refine blk_alloc ?_ _)); refine blk_put (cs := #[.int .i64 0, .int .i64 0, .int .i64 0, .int .i64 0, .int .i64 0, .slice none 0 0]) ?_ 0 _ rfl; (with_reducible repeat (first | refine blk_drewN ?_ _ | refine blk_drew ?_ | refine blk_alloc ?_ _)); exact BK212.out) Try.underlying39 rfl (by kernel_rfl)) rfl ?_
        exact ⟨_, by first | rfl | (simp [errW_none, errW_some] <;> rfl) | (simp [*, errW_none, errW_some] <;> rfl), by (with_reducible repeat (first | apply Kd.V_alloc | apply Kd.V_drewN | apply Kd.V_drew)); exact Kd.V_mono (Kd.V_far (p := ⟨gb212, 5, none⟩) (Kd.V_far (p := ⟨gb212, 4, none⟩) (Kd.V_far (p := ⟨gb212, 3, none⟩) (Kd.V_far (p := ⟨gb212, 2, none⟩) (Kd.V_far (p := ⟨gb212, 1, none⟩) (Kd.V_far (p := ⟨gb212, 0, none⟩) (Kd.V_mono HO_212005.out (fun k_ hk => (⟨hk, hk.2.2⟩ : _ ∧ k_ ≠ gb212))) (fun _ hk => hk.2) (.int .i64 x212000_1)) (fun _ hk => hk.2) (.int .i64 x212001_1)) (fun _ hk => hk.2) (.int .i64 x212002_1)) (fun _ hk => hk.2) (.int .i64 x212003_1)) (fun _ hk => hk.2) (.int .i64 x212004_1)) (fun _ hk => hk.2) (.slice Ao36 x212005_1.length co36)) (fun _ hk => hk.1.1), by repeat (first | (with_reducible first | exact HB.out | apply below_alloc | apply pw_below_drewN | apply below_drew1 | refine below_set ?_ GE211.out | refine below_set ?_ GE212.out) | exact HB.out)⟩

end Go.Proofs.Ytkhdpmbjjcmooaa.F
