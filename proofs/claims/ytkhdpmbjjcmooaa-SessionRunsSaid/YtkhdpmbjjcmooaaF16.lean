-- Written by a program of this session (xprint.py), out of the translation and of contracts proved by hand.
import Derived.Test.YtkhdpmbjjcmooaaF0
import Derived.Test.YtkhdpmbjjcmooaaF1
import Derived.Test.YtkhdpmbjjcmooaaF2
import Derived.Test.YtkhdpmbjjcmooaaF5
import Derived.Test.YtkhdpmbjjcmooaaF7
import Derived.Test.YtkhdpmbjjcmooaaF11
import Derived.Test.YtkhdpmbjjcmooaaF12
import Derived.Test.YtkhdpmbjjcmooaaF15
namespace Go.Proofs.Ytkhdpmbjjcmooaa.F
open Go.RowKit Go.Proofs.YtkhdpmbjjcmooaaV.PrintWords Go.Proofs.YtkhdpmbjjcmooaaV.PrintLast Go.Proofs.YtkhdpmbjjcmooaaV.PrintMore
attribute [local go_sem] max2_int min2_int max_two min_two max_three min_three max_four min_four   -- for this text's walks alone
set_option linter.unusedVariables false
set_option linter.unusedSimpArgs false

/-! ### watchmanlaw18_SessionRuns: function 5 -/
mutual
def watchmanlaw18_SessionRuns.l0 : Nat → Int → List (S45) → Int → List (S39) → Int → Int → Int → Int → List ByteArray → Option (Bool)
  | 0, _, _, _, _, _, _, _, _, _ => none
  | k + 1, x0, x1, x2, x7, x8, x10, x402000, x402001, x402002 => if x10 < (x1.length : Int) then (if 0 ≤ x10 then ((watchmanref18_BigAnswer.f k ((rd_T45 x1 x10).f3.f0) ((rd_T45 x1 x10).f3.f1) ((rd_T45 x1 x10).f3.f2)).bind fun t405 => (if t405 = true then (some true) else (if ((rd_T45 x1 x10).f0) = 1 then ((session_Open.f k x7 x0 (wrap64 (x10 + 1))).bind fun bt406 => (if bt406.2.2 = 0 then (watchmanlaw18_SessionRuns.j1 k x0 x1 x2 bt406.1 x8 x10 x402000 x402001 x402002 ((rd_T45 x1 x10).f0) ((rd_T45 x1 x10).f1) ((rd_T45 x1 x10).f2) ((rd_T45 x1 x10).f3.f0) ((rd_T45 x1 x10).f3.f1) ((rd_T45 x1 x10).f3.f2)) else (watchmanlaw18_SessionRuns.j1 k x0 x1 x2 x7 x8 x10 x402000 x402001 x402002 ((rd_T45 x1 x10).f0) ((rd_T45 x1 x10).f1) ((rd_T45 x1 x10).f2) ((rd_T45 x1 x10).f3.f0) ((rd_T45 x1 x10).f3.f1) ((rd_T45 x1 x10).f3.f2)))) else (watchmanlaw18_SessionRuns.j1 k x0 x1 x2 x7 x8 x10 x402000 x402001 x402002 ((rd_T45 x1 x10).f0) ((rd_T45 x1 x10).f1) ((rd_T45 x1 x10).f2) ((rd_T45 x1 x10).f3.f0) ((rd_T45 x1 x10).f3.f1) ((rd_T45 x1 x10).f3.f2))))) else (none)) else ((watchmanlaw18_asked.f k).bind fun t402 => (some t402))
def watchmanlaw18_SessionRuns.j1 : Nat → Int → List (S45) → Int → List (S39) → Int → Int → Int → Int → List ByteArray → Int → Int → Int → Int → Int → List ByteArray → Option (Bool)
  | 0, _, _, _, _, _, _, _, _, _, _, _, _, _, _, _ => none
  | k + 1, x0, x1, x2, x7, x8, x10, x402000, x402001, x402002, x405000, x405001, x405002, x405003, x405004, x405005 => if x405000 = 2 then ((session_Put.f k x7 x405001 x405002 (wrap64 (x10 + 1)) x405003 x405004 x405005).bind fun bt411 => (if bt411.2 = 0 then (if x405001 = x2 then (watchmanlaw18_SessionRuns.j2 k x0 x1 x2 bt411.1 x8 x10 (decide (x405002 ≤ x8)) x402000 x402001 x402002 x405000 x405001 x405002 x405003 x405004 x405005) else (watchmanlaw18_SessionRuns.j2 k x0 x1 x2 bt411.1 x8 x10 false x402000 x402001 x402002 x405000 x405001 x405002 x405003 x405004 x405005)) else (watchmanlaw18_SessionRuns.j3 k x0 x1 x2 x7 x8 x10 x402000 x402001 x402002))) else (watchmanlaw18_SessionRuns.j3 k x0 x1 x2 x7 x8 x10 x402000 x402001 x402002)
def watchmanlaw18_SessionRuns.j3 : Nat → Int → List (S45) → Int → List (S39) → Int → Int → Int → Int → List ByteArray → Option (Bool)
  | 0, _, _, _, _, _, _, _, _, _ => none
  | k + 1, x0, x1, x2, x7, x8, x10, x402000, x402001, x402002 => (session_Find.f x7 x2).bind fun bt420 => (if bt420.2.2.2.2.2.2 = true then (if bt420.2.1 = x8 then ((watchmanref18_SameAnswer.f k bt420.2.2.2.1 bt420.2.2.2.2.1 bt420.2.2.2.2.2.1 x402000 x402001 x402002).bind fun t430 => (if t430 = true then ((session_Is.f k x7).bind fun t431 => (if t431 = true then (watchmanlaw18_SessionRuns.l0 k x0 x1 x2 x7 x8 (wrap64 (x10 + 1)) x402000 x402001 x402002) else (none))) else (none))) else (none)) else ((session_Is.f k x7).bind fun t432 => (if t432 = true then (watchmanlaw18_SessionRuns.l0 k x0 x1 x2 x7 x8 (wrap64 (x10 + 1)) x402000 x402001 x402002) else (none))))
def watchmanlaw18_SessionRuns.j2 : Nat → Int → List (S45) → Int → List (S39) → Int → Int → Bool → Int → Int → List ByteArray → Int → Int → Int → Int → Int → List ByteArray → Option (Bool)
  | 0, _, _, _, _, _, _, _, _, _, _, _, _, _, _, _, _ => none
  | k + 1, x0, x1, x2, x7, x8, x10, x78, x402000, x402001, x402002, x405000, x405001, x405002, x405003, x405004, x405005 => if x78 = true then (none) else (if x405001 = x2 then ((watchmanref18_OwnAnswer.f x405003 x405004 x405005).bind fun bt415 => (watchmanlaw18_SessionRuns.j3 k x0 x1 x2 x7 x405002 x10 bt415.1 bt415.2.1 bt415.2.2)) else (watchmanlaw18_SessionRuns.j3 k x0 x1 x2 x7 x8 x10 x402000 x402001 x402002))
end
def watchmanlaw18_SessionRuns.f (k : Nat) (a0 : Int) (l1 : List (S45)) (a2 : Int) : Option (Bool) := if (l1.length : Int) > 100 then (some true) else (watchmanlaw18_SessionRuns.l0 k a0 l1 a2 ([] : List (S39)) 0 0 0 0 ([] : List ByteArray))
theorem watchmanlaw18_SessionRuns.mono_l : ∀ k, (∀ y0 y1 y2 y3 y4 y5 y6 y7 y8, LeO (watchmanlaw18_SessionRuns.l0 k y0 y1 y2 y3 y4 y5 y6 y7 y8) (watchmanlaw18_SessionRuns.l0 (k + 1) y0 y1 y2 y3 y4 y5 y6 y7 y8)) ∧ (∀ y0 y1 y2 y3 y4 y5 y6 y7 y8 y9 y10 y11 y12 y13 y14, LeO (watchmanlaw18_SessionRuns.j1 k y0 y1 y2 y3 y4 y5 y6 y7 y8 y9 y10 y11 y12 y13 y14) (watchmanlaw18_SessionRuns.j1 (k + 1) y0 y1 y2 y3 y4 y5 y6 y7 y8 y9 y10 y11 y12 y13 y14)) ∧ (∀ y0 y1 y2 y3 y4 y5 y6 y7 y8, LeO (watchmanlaw18_SessionRuns.j3 k y0 y1 y2 y3 y4 y5 y6 y7 y8) (watchmanlaw18_SessionRuns.j3 (k + 1) y0 y1 y2 y3 y4 y5 y6 y7 y8)) ∧ (∀ y0 y1 y2 y3 y4 y5 y6 y7 y8 y9 y10 y11 y12 y13 y14 y15, LeO (watchmanlaw18_SessionRuns.j2 k y0 y1 y2 y3 y4 y5 y6 y7 y8 y9 y10 y11 y12 y13 y14 y15) (watchmanlaw18_SessionRuns.j2 (k + 1) y0 y1 y2 y3 y4 y5 y6 y7 y8 y9 y10 y11 y12 y13 y14 y15))
  | 0 => ⟨fun _ _ _ _ _ _ _ _ _ r h => by simp [watchmanlaw18_SessionRuns.l0] at h, fun _ _ _ _ _ _ _ _ _ _ _ _ _ _ _ r h => by simp [watchmanlaw18_SessionRuns.j1] at h, fun _ _ _ _ _ _ _ _ _ r h => by simp [watchmanlaw18_SessionRuns.j3] at h, fun _ _ _ _ _ _ _ _ _ _ _ _ _ _ _ _ r h => by simp [watchmanlaw18_SessionRuns.j2] at h⟩
  | k + 1 => by
    obtain ⟨ih0, ih1, ih2, ih3⟩ := watchmanlaw18_SessionRuns.mono_l k
    refine ⟨?_, ?_, ?_, ?_⟩
    · intro y0 y1 y2 y3 y4 y5 y6 y7 y8
      unfold watchmanlaw18_SessionRuns.l0
      repeat' first
      | (with_reducible exact ih0 _ _ _ _ _ _ _ _ _)
      | (with_reducible exact ih1 _ _ _ _ _ _ _ _ _ _ _ _ _ _ _)
      | (with_reducible exact ih2 _ _ _ _ _ _ _ _ _)
      | (with_reducible exact ih3 _ _ _ _ _ _ _ _ _ _ _ _ _ _ _ _)
      | (with_reducible exact session_Is.mono _ _)
      | (with_reducible exact session_Open.mono _ _ _ _)
      | (with_reducible exact session_Put.mono _ _ _ _ _ _ _ _)
      | (with_reducible exact watchmanlaw18_asked.mono _)
      | (with_reducible exact watchmanref18_BigAnswer.mono _ _ _ _)
      | (with_reducible exact watchmanref18_SameAnswer.mono _ _ _ _ _ _ _)
      | (with_reducible exact LeO.refl _)
      | (with_reducible exact LeO.none _)
      | (with_reducible refine LeO.ite ?_ ?_)
      | (with_reducible refine LeO.bind ?_ (fun _ => ?_))
      | exact ih0 _ _ _ _ _ _ _ _ _
      | exact ih1 _ _ _ _ _ _ _ _ _ _ _ _ _ _ _
      | exact ih2 _ _ _ _ _ _ _ _ _
      | exact ih3 _ _ _ _ _ _ _ _ _ _ _ _ _ _ _ _
      | exact session_Is.mono _ _
      | exact session_Open.mono _ _ _ _
      | exact session_Put.mono _ _ _ _ _ _ _ _
      | exact watchmanlaw18_asked.mono _
      | exact watchmanref18_BigAnswer.mono _ _ _ _
      | exact watchmanref18_SameAnswer.mono _ _ _ _ _ _ _
      | exact LeO.none _
      | refine LeO.ite ?_ ?_
      | refine LeO.bind ?_ (fun _ => ?_)
    · intro y0 y1 y2 y3 y4 y5 y6 y7 y8 y9 y10 y11 y12 y13 y14
      unfold watchmanlaw18_SessionRuns.j1
      repeat' first
      | (with_reducible exact ih0 _ _ _ _ _ _ _ _ _)
      | (with_reducible exact ih1 _ _ _ _ _ _ _ _ _ _ _ _ _ _ _)
      | (with_reducible exact ih2 _ _ _ _ _ _ _ _ _)
      | (with_reducible exact ih3 _ _ _ _ _ _ _ _ _ _ _ _ _ _ _ _)
      | (with_reducible exact session_Is.mono _ _)
      | (with_reducible exact session_Open.mono _ _ _ _)
      | (with_reducible exact session_Put.mono _ _ _ _ _ _ _ _)
      | (with_reducible exact watchmanlaw18_asked.mono _)
      | (with_reducible exact watchmanref18_BigAnswer.mono _ _ _ _)
      | (with_reducible exact watchmanref18_SameAnswer.mono _ _ _ _ _ _ _)
      | (with_reducible exact LeO.refl _)
      | (with_reducible exact LeO.none _)
      | (with_reducible refine LeO.ite ?_ ?_)
      | (with_reducible refine LeO.bind ?_ (fun _ => ?_))
      | exact ih0 _ _ _ _ _ _ _ _ _
      | exact ih1 _ _ _ _ _ _ _ _ _ _ _ _ _ _ _
      | exact ih2 _ _ _ _ _ _ _ _ _
      | exact ih3 _ _ _ _ _ _ _ _ _ _ _ _ _ _ _ _
      | exact session_Is.mono _ _
      | exact session_Open.mono _ _ _ _
      | exact session_Put.mono _ _ _ _ _ _ _ _
      | exact watchmanlaw18_asked.mono _
      | exact watchmanref18_BigAnswer.mono _ _ _ _
      | exact watchmanref18_SameAnswer.mono _ _ _ _ _ _ _
      | exact LeO.none _
      | refine LeO.ite ?_ ?_
      | refine LeO.bind ?_ (fun _ => ?_)
    · intro y0 y1 y2 y3 y4 y5 y6 y7 y8
      unfold watchmanlaw18_SessionRuns.j3
      repeat' first
      | (with_reducible exact ih0 _ _ _ _ _ _ _ _ _)
      | (with_reducible exact ih1 _ _ _ _ _ _ _ _ _ _ _ _ _ _ _)
      | (with_reducible exact ih2 _ _ _ _ _ _ _ _ _)
      | (with_reducible exact ih3 _ _ _ _ _ _ _ _ _ _ _ _ _ _ _ _)
      | (with_reducible exact session_Is.mono _ _)
      | (with_reducible exact session_Open.mono _ _ _ _)
      | (with_reducible exact session_Put.mono _ _ _ _ _ _ _ _)
      | (with_reducible exact watchmanlaw18_asked.mono _)
      | (with_reducible exact watchmanref18_BigAnswer.mono _ _ _ _)
      | (with_reducible exact watchmanref18_SameAnswer.mono _ _ _ _ _ _ _)
      | (with_reducible exact LeO.refl _)
      | (with_reducible exact LeO.none _)
      | (with_reducible refine LeO.ite ?_ ?_)
      | (with_reducible refine LeO.bind ?_ (fun _ => ?_))
      | exact ih0 _ _ _ _ _ _ _ _ _
      | exact ih1 _ _ _ _ _ _ _ _ _ _ _ _ _ _ _
      | exact ih2 _ _ _ _ _ _ _ _ _
      | exact ih3 _ _ _ _ _ _ _ _ _ _ _ _ _ _ _ _
      | exact session_Is.mono _ _
      | exact session_Open.mono _ _ _ _
      | exact session_Put.mono _ _ _ _ _ _ _ _
      | exact watchmanlaw18_asked.mono _
      | exact watchmanref18_BigAnswer.mono _ _ _ _
      | exact watchmanref18_SameAnswer.mono _ _ _ _ _ _ _
      | exact LeO.none _
      | refine LeO.ite ?_ ?_
      | refine LeO.bind ?_ (fun _ => ?_)
    · intro y0 y1 y2 y3 y4 y5 y6 y7 y8 y9 y10 y11 y12 y13 y14 y15
      unfold watchmanlaw18_SessionRuns.j2
      repeat' first
      | (with_reducible exact ih0 _ _ _ _ _ _ _ _ _)
      | (with_reducible exact ih1 _ _ _ _ _ _ _ _ _ _ _ _ _ _ _)
      | (with_reducible exact ih2 _ _ _ _ _ _ _ _ _)
      | (with_reducible exact ih3 _ _ _ _ _ _ _ _ _ _ _ _ _ _ _ _)
      | (with_reducible exact session_Is.mono _ _)
      | (with_reducible exact session_Open.mono _ _ _ _)
      | (with_reducible exact session_Put.mono _ _ _ _ _ _ _ _)
      | (with_reducible exact watchmanlaw18_asked.mono _)
      | (with_reducible exact watchmanref18_BigAnswer.mono _ _ _ _)
      | (with_reducible exact watchmanref18_SameAnswer.mono _ _ _ _ _ _ _)
      | (with_reducible exact LeO.refl _)
      | (with_reducible exact LeO.none _)
      | (with_reducible refine LeO.ite ?_ ?_)
      | (with_reducible refine LeO.bind ?_ (fun _ => ?_))
      | exact ih0 _ _ _ _ _ _ _ _ _
      | exact ih1 _ _ _ _ _ _ _ _ _ _ _ _ _ _ _
      | exact ih2 _ _ _ _ _ _ _ _ _
      | exact ih3 _ _ _ _ _ _ _ _ _ _ _ _ _ _ _ _
      | exact session_Is.mono _ _
      | exact session_Open.mono _ _ _ _
      | exact session_Put.mono _ _ _ _ _ _ _ _
      | exact watchmanlaw18_asked.mono _
      | exact watchmanref18_BigAnswer.mono _ _ _ _
      | exact watchmanref18_SameAnswer.mono _ _ _ _ _ _ _
      | exact LeO.none _
      | refine LeO.ite ?_ ?_
      | refine LeO.bind ?_ (fun _ => ?_)
theorem watchmanlaw18_SessionRuns.mono : ∀ a0 a1 a2 k, LeO (watchmanlaw18_SessionRuns.f k a0 a1 a2) (watchmanlaw18_SessionRuns.f (k + 1) a0 a1 a2) := by
  intro a0 a1 a2 k
  obtain ⟨ih0, ih1, ih2, ih3⟩ := watchmanlaw18_SessionRuns.mono_l k
  unfold watchmanlaw18_SessionRuns.f
  repeat' first
      | (with_reducible exact ih0 _ _ _ _ _ _ _ _ _)
      | (with_reducible exact ih1 _ _ _ _ _ _ _ _ _ _ _ _ _ _ _)
      | (with_reducible exact ih2 _ _ _ _ _ _ _ _ _)
      | (with_reducible exact ih3 _ _ _ _ _ _ _ _ _ _ _ _ _ _ _ _)
      | (with_reducible exact session_Is.mono _ _)
      | (with_reducible exact session_Open.mono _ _ _ _)
      | (with_reducible exact session_Put.mono _ _ _ _ _ _ _ _)
      | (with_reducible exact watchmanlaw18_asked.mono _)
      | (with_reducible exact watchmanref18_BigAnswer.mono _ _ _ _)
      | (with_reducible exact watchmanref18_SameAnswer.mono _ _ _ _ _ _ _)
      | (with_reducible exact LeO.refl _)
      | (with_reducible exact LeO.none _)
      | (with_reducible refine LeO.ite ?_ ?_)
      | (with_reducible refine LeO.bind ?_ (fun _ => ?_))
      | exact ih0 _ _ _ _ _ _ _ _ _
      | exact ih1 _ _ _ _ _ _ _ _ _ _ _ _ _ _ _
      | exact ih2 _ _ _ _ _ _ _ _ _
      | exact ih3 _ _ _ _ _ _ _ _ _ _ _ _ _ _ _ _
      | exact session_Is.mono _ _
      | exact session_Open.mono _ _ _ _
      | exact session_Put.mono _ _ _ _ _ _ _ _
      | exact watchmanlaw18_asked.mono _
      | exact watchmanref18_BigAnswer.mono _ _ _ _
      | exact watchmanref18_SameAnswer.mono _ _ _ _ _ _ _
      | exact LeO.none _
      | refine LeO.ite ?_ ?_
      | refine LeO.bind ?_ (fun _ => ?_)
set_option maxHeartbeats 8000000 in
set_option maxRecDepth 100000 in
theorem watchmanlaw18_SessionRuns.calls (k : Nat) (a0 : Int) (A1 : Option Addr) (c1 : Nat) (l1 : List (S45)) (a2 : Int) (r : Bool) (w : World) (hr1 : Kd.C k45 w A1 l1.length l1) (hc1 : l1.length ≤ c1) (h : watchmanlaw18_SessionRuns.f k a0 l1 a2 = some r) :
    Calls Try.prog 5 #[.int .i64 a0, .slice A1 l1.length c1, .int .i64 a2] w fun e w' => e = .returned (.bool r) ∧ Below w.heap.size w w' := by
  have hu26 := Try.underlying26
  have hu45 := Try.underlying45
  have hu39 := Try.underlying39
  have HR1 := Aside0.mk hr1
  have HC1 := Aside0.mk hc1
  clear hr1 hc1
  have HB := Aside0.mk (Below.refl w.heap.size w)
  have H : (if (l1.length : Int) > 100 then (some true) else (watchmanlaw18_SessionRuns.l0 k a0 l1 a2 ([] : List (S39)) 0 0 0 0 ([] : List ByteArray))) = some r := h
  clear h
  by_cases c4 : (l1.length : Int) > 100
  · rw [if_pos c4] at H
    have c4b0 : decide (100 < (l1.length : Int)) = true := decide_eq_true c4
    have c4b1 : decide (100 < l1.length) = true := decide_eq_true (by omega)
    clear c4
    obtain rfl := Option.some.inj H
    go_enter Try.func5, Try.ntmps5
    go_wp2_with (first | ((with_reducible refine gate_dst (N := 9) rfl ?_); refine box_event ?hg (N := 9) ?hd (cs := #[.int .i64 0, .int .i64 0, .slice none 0 0]) (t := 26) ?hr ?_; (case hd => rfl); (case hg => rfl); (case hr => first | (go_simp; done) | (go_simp; rfl)); intro gb401 hg w5 hbox hb; have n0_ := Aside0.mk (below_step (by repeat (first | (with_reducible first | exact HB.out | apply below_alloc | apply pw_below_drewN | apply below_drew1) | exact HB.out)) hb); have n1_ := Aside0.mk (hbox); have n2_ := Aside0.mk ((by rw [hg]; exact (below_size (by repeat (first | (with_reducible first | exact HB.out | apply below_alloc | apply pw_below_drewN | apply below_drew1) | exact HB.out))) : w.heap.size ≤ gb401)); have n3_ := Aside0.mk ((by rw [hg]; exact (below_size (by repeat (first | (with_reducible first | exact HB.out | apply below_alloc | apply pw_below_drewN | apply below_drew1) | exact HB.out))) : w.heap.size ≤ gb401)); clear HB; have HB := n0_; have BK401 := n1_; have GW401 := n2_; have GE401 := n3_; clear n0_ n1_ n2_ n3_; clear hb hbox hg))
    go_ret
    exact ⟨by first | rfl | (simp [errW_none, errW_some] <;> rfl) | (simp [*, errW_none, errW_some] <;> rfl), by repeat (first | (with_reducible first | exact HB.out | apply below_alloc | apply pw_below_drewN | apply below_drew1 | refine below_set ?_ GE401.out) | exact HB.out)⟩
  · rw [if_neg c4] at H
    have c4b0 : decide (100 < (l1.length : Int)) = false := decide_eq_false c4
    have c4b1 : decide (100 < l1.length) = false := decide_eq_false (by omega)
    clear c4
    have H' := Aside0.mk H
    clear H
    go_enter Try.func5, Try.ntmps5
    go_wp2_with (first | ((with_reducible refine gate_dst (N := 9) rfl ?_); refine box_event ?hg (N := 9) ?hd (cs := #[.int .i64 0, .int .i64 0, .slice none 0 0]) (t := 26) ?hr ?_; (case hd => rfl); (case hg => rfl); (case hr => first | (go_simp; done) | (go_simp; rfl)); intro gb401 hg w6 hbox hb; have n0_ := Aside0.mk (below_step (by repeat (first | (with_reducible first | exact HB.out | apply below_alloc | apply pw_below_drewN | apply below_drew1) | exact HB.out)) hb); have n1_ := Aside0.mk (hbox); have n2_ := Aside0.mk ((by rw [hg]; exact (below_size (by repeat (first | (with_reducible first | exact HB.out | apply below_alloc | apply pw_below_drewN | apply below_drew1) | exact HB.out))) : w.heap.size ≤ gb401)); have n3_ := Aside0.mk ((by rw [hg]; exact (below_size (by repeat (first | (with_reducible first | exact HB.out | apply below_alloc | apply pw_below_drewN | apply below_drew1) | exact HB.out))) : w.heap.size ≤ gb401)); clear HB; have HB := n0_; have BK401 := n1_; have GW401 := n2_; have GE401 := n3_; clear n0_ n1_ n2_ n3_; clear hb hbox hg))
    go_loopg [7, 8, 10] k (fun kq v7 v8 v10 w' => ∃ (x7_1 : List (S39)) (x8_1 : Int) (x10_1 : Int) (x402000_1 : Int) (x402001_1 : Int) (x402002_1 : List ByteArray) (u402002 : Value), v8 = .int .i64 x8_1 ∧ v10 = .int .i64 x10_1 ∧ Aside0 (watchmanlaw18_SessionRuns.l0 kq a0 l1 a2 x7_1 x8_1 x10_1 x402000_1 x402001_1 x402002_1 = some r) ∧ Aside0 (kq ≤ k) ∧ Aside0 (Kd.N k39 39 w' w.heap.size (fun k_ => some k_ ≠ (u402002 : Value).ownBlock ∧ k_ ≠ gb401) v7 x7_1) ∧ Aside0 (Kd.R Kd.string 9 w' w.heap.size (fun _ => True) u402002 x402002_1) ∧ Aside0 (w'.heap[gb401]? = some (.cells #[.int .i64 x402000_1, .int .i64 x402001_1, u402002] 26 (0, 0))) ∧ Aside0 (Below w.heap.size w w'))
    case atStart => exact ⟨(([] : List (S39))), (0), (0), (0), (0), (([] : List ByteArray)), (.slice none 0 0), (by first | rfl | (simp; done) | (simp [*]; done)), (by first | rfl | (simp; done) | (simp [*]; done)), H', ⟨Nat.le_refl _⟩, ⟨by first | exact Kd.S_nil _ _ _ _ _ | exact Kd.N_nil _ _ _ _ _ | exact Kd.V_nil _ _ _ _ _ | exact Kd.Q_nil _ _ _ _ _ | exact Kd.R_nil _ _ _ _ _⟩, ⟨by first | exact Kd.R_nil _ _ _ _ _ | exact Kd.N_nil _ _ _ _ _ | exact Kd.V_nil _ _ _ _ _ | exact Kd.Q_nil _ _ _ _ _ | exact Kd.S_nil _ _ _ _ _⟩, ⟨by (with_reducible repeat (first | refine blk_drewN ?_ _ | refine blk_drew ?_ | refine blk_alloc ?_ _)); exact BK401.out⟩, ⟨by repeat (first | (with_reducible first | exact HB.out | apply below_alloc | apply pw_below_drewN | apply below_drew1 | refine below_set ?_ GE401.out) | exact HB.out)⟩⟩
    case round =>
      clear H'
      try clear c1
      try clear p2
      try clear c4
      try clear c4b0
      try clear c4b1
      try clear c5
      obtain ⟨x7_1, x8_1, x10_1, x402000_1, x402001_1, x402002_1, u402002, rfl, rfl, HA, HK1, HO_7, HO_402002, BK401, HB⟩ := hrel
      cases gk with
      | zero => exact absurd HA.out (by simp [watchmanlaw18_SessionRuns.l0])
      | succ k1 =>
        have H := HA.out
        clear HA
        simp only [watchmanlaw18_SessionRuns.l0] at H
        by_cases c7 : x10_1 < (l1.length : Int)
        · rw [if_pos c7] at H
          have c7b0 : decide (x10_1 < (l1.length : Int)) = true := decide_eq_true c7
          clear c7
          by_cases c8 : 0 ≤ x10_1
          · rw [if_pos c8] at H
            have c8b0 : decide (0 ≤ x10_1) = true := decide_eq_true c8
            clear c8
            replace H := Option.bind_eq_some_iff.mp H
            obtain ⟨t405, A90, H⟩ := H
            replace H : (if t405 = true then (some true) else (if ((rd_T45 l1 x10_1).f0) = 1 then ((session_Open.f k1 x7_1 a0 (wrap64 (x10_1 + 1))).bind fun bt406 => (if bt406.2.2 = 0 then (watchmanlaw18_SessionRuns.j1 k1 a0 l1 a2 bt406.1 x8_1 x10_1 x402000_1 x402001_1 x402002_1 ((rd_T45 l1 x10_1).f0) ((rd_T45 l1 x10_1).f1) ((rd_T45 l1 x10_1).f2) ((rd_T45 l1 x10_1).f3.f0) ((rd_T45 l1 x10_1).f3.f1) ((rd_T45 l1 x10_1).f3.f2)) else (watchmanlaw18_SessionRuns.j1 k1 a0 l1 a2 x7_1 x8_1 x10_1 x402000_1 x402001_1 x402002_1 ((rd_T45 l1 x10_1).f0) ((rd_T45 l1 x10_1).f1) ((rd_T45 l1 x10_1).f2) ((rd_T45 l1 x10_1).f3.f0) ((rd_T45 l1 x10_1).f3.f1) ((rd_T45 l1 x10_1).f3.f2)))) else (watchmanlaw18_SessionRuns.j1 k1 a0 l1 a2 x7_1 x8_1 x10_1 x402000_1 x402001_1 x402002_1 ((rd_T45 l1 x10_1).f0) ((rd_T45 l1 x10_1).f1) ((rd_T45 l1 x10_1).f2) ((rd_T45 l1 x10_1).f3.f0) ((rd_T45 l1 x10_1).f3.f1) ((rd_T45 l1 x10_1).f3.f2)))) = some r := H
            have A9 := Aside0.mk A90
            clear A90
            by_cases c10 : t405 = true
            · subst c10
              have H1 : (some true) = some r := by rw [if_pos rfl] at H; exact H
              clear H
              have H := H1
              clear H1
              obtain rfl := Option.some.inj H
              have p403 : 0 ≤ (x10_1 : Int) := of_decide_eq_true (by first | (with_reducible assumption) | assumption)
              have q403 : x10_1 < (l1.length : Int) := of_decide_eq_true (by first | (with_reducible assumption) | assumption)
              obtain ⟨ad403, A403_5, c403_5, e403, hx403_0, hx403_1, hx403_2, hx403_3, hx403_4, hx403_5, hl403_5, hi403_5⟩ := at_T45 HR1.out x10_1 p403 q403
              cases e403
              replace hx403_0 := (HB.out.cell (World.block_lt_of_cell? w _ hx403_0)).trans hx403_0
              replace hx403_1 := (HB.out.cell (World.block_lt_of_cell? w _ hx403_1)).trans hx403_1
              replace hx403_2 := (HB.out.cell (World.block_lt_of_cell? w _ hx403_2)).trans hx403_2
              replace hx403_3 := (HB.out.cell (World.block_lt_of_cell? w _ hx403_3)).trans hx403_3
              replace hx403_4 := (HB.out.cell (World.block_lt_of_cell? w _ hx403_4)).trans hx403_4
              replace hx403_5 := (HB.out.cell (World.block_lt_of_cell? w _ hx403_5)).trans hx403_5
              have HR403_5 := Aside0.mk hi403_5
              have HC403_5 := Aside0.mk hl403_5
              clear hi403_5 hl403_5
              replace p403 := eq_true p403
              replace q403 := eq_true q403
              go_wp2_with (first | ((with_reducible refine gate_dst (N := 11) rfl ?_); refine box_event ?hg (N := 11) ?hd (cs := #[.int .i64 0, .int .i64 0, .int .i64 0, .int .i64 0, .int .i64 0, .slice none 0 0]) (t := 45) ?hr ?_; (case hd => rfl); (case hg => rfl); (case hr => first | (go_simp; done) | (go_simp; rfl)); intro gb404 hg w11 hbox hb; have n0_ := Aside0.mk (Kd.N_below (Kd.N_elderB (by (with_reducible repeat (first | apply Kd.N_alloc | apply Kd.N_drewN | apply Kd.N_drew)); exact HO_7.out) gb404 (Nat.le_of_eq hg.symm)) hb); have n1_ := Aside0.mk (Kd.R_below (by (with_reducible repeat (first | apply Kd.R_alloc | apply Kd.R_drewN | apply Kd.R_drew)); exact HO_402002.out) hb); have n2_ := Aside0.mk (blk_below (g := gb401) (o := .cells #[.int .i64 x402000_1, .int .i64 x402001_1, u402002] 26 (0, 0)) (by (with_reducible repeat (first | refine blk_drewN ?_ _ | refine blk_drew ?_ | refine blk_alloc ?_ _)); exact BK401.out) hb); have n3_ := Aside0.mk (below_step (by repeat (first | (with_reducible first | exact HB.out | apply below_alloc | apply pw_below_drewN | apply below_drew1 | refine below_set ?_ GE401.out) | exact HB.out)) hb); have n4_ := Aside0.mk (hbox); have n5_ := Aside0.mk ((by rw [hg]; exact (below_size (by repeat (first | (with_reducible first | exact HB.out | apply below_alloc | apply pw_below_drewN | apply below_drew1 | refine below_set ?_ GE401.out) | exact HB.out))) : w.heap.size ≤ gb404)); have n6_ := Aside0.mk ((by rw [hg]; exact (below_size (by repeat (first | (with_reducible first | exact HB.out | apply below_alloc | apply pw_below_drewN | apply below_drew1 | refine below_set ?_ GE401.out) | exact HB.out))) : w.heap.size ≤ gb404)); have n7_ := Aside0.mk ((by rw [hg]; exact Nat.ne_of_lt (blk_lt (g := gb401) (o := .cells #[.int .i64 x402000_1, .int .i64 x402001_1, u402002] 26 (0, 0)) (by (with_reducible repeat (first | refine blk_drewN ?_ _ | refine blk_drew ?_ | refine blk_alloc ?_ _)); exact BK401.out)) : gb401 ≠ gb404)); have n8_ := Aside0.mk ((by rw [hg]; exact Nat.ne_of_gt (blk_lt (g := gb401) (o := .cells #[.int .i64 x402000_1, .int .i64 x402001_1, u402002] 26 (0, 0)) (by (with_reducible repeat (first | refine blk_drewN ?_ _ | refine blk_drew ?_ | refine blk_alloc ?_ _)); exact BK401.out)) : gb404 ≠ gb401)); clear HO_7; clear HO_402002; clear BK401; clear HB; have HO_7 := n0_; have HO_402002 := n1_; have BK401 := n2_; have HB := n3_; have BK404 := n4_; have GW404 := n5_; have GE404 := n6_; have NB401_404 := n7_; have NB404_401 := n8_; clear n0_ n1_ n2_ n3_ n4_ n5_ n6_ n7_ n8_; clear hb hbox hg; have hnb12 := NB404_401.out; have hnc12 := NB401_404.out; have hcz13_0 : w11.cell? ⟨gb404, 0, none⟩ = some (.int .i64 0) := (blk_cell BK404.out 0).trans rfl; have hcz13_1 : w11.cell? ⟨gb404, 1, none⟩ = some (.int .i64 0) := (blk_cell BK404.out 1).trans rfl; have hcz13_2 : w11.cell? ⟨gb404, 2, none⟩ = some (.int .i64 0) := (blk_cell BK404.out 2).trans rfl; have hcz13_3 : w11.cell? ⟨gb404, 3, none⟩ = some (.int .i64 0) := (blk_cell BK404.out 3).trans rfl; have hcz13_4 : w11.cell? ⟨gb404, 4, none⟩ = some (.int .i64 0) := (blk_cell BK404.out 4).trans rfl; have hcz13_5 : w11.cell? ⟨gb404, 5, none⟩ = some (.slice none 0 0) := (blk_cell BK404.out 5).trans rfl; have hfz13_0 := blk_frozen BK404.out 0; have hfz13_1 := blk_frozen BK404.out 1; have hfz13_2 := blk_frozen BK404.out 2; have hfz13_3 := blk_frozen BK404.out 3; have hfz13_4 := blk_frozen BK404.out 4; have hfz13_5 := blk_frozen BK404.out 5) | ((with_reducible refine gate_callee (f := 9) rfl ?_); refine goesL_ (some 34) rfl rfl Try.func9 (by kernel_rfl) rfl #[.agg #[.int .i64 ((rd_T45 l1 x10_1).f3.f0), .int .i64 ((rd_T45 l1 x10_1).f3.f1), .slice A403_5 ((rd_T45 l1 x10_1).f3.f2).length c403_5]] rfl (by (try simp only [List.map_toArray, List.map_cons, List.map_nil]); first | done | rfl | (simp only [List.length_drop, List.length_take]; rfl)) ?_; (with_reducible refine (watchmanref18_BigAnswer.calls k1 ((rd_T45 l1 x10_1).f3.f0) ((rd_T45 l1 x10_1).f3.f1) _ _ ((rd_T45 l1 x10_1).f3.f2) true _ ?side1 ?side2 A9.out).mono ?_); (case side1 => exact Kd.C_below HR403_5.out (by repeat (first | (with_reducible first | exact HB.out | apply below_alloc | apply pw_below_drewN | apply below_drew1 | refine below_set ?_ GE401.out | refine below_set ?_ GE404.out) | exact HB.out))); (case side2 => exact HC403_5.out); rintro e w14 ⟨rfl, hb⟩; refine ⟨_, rfl, ?_⟩; have n0_ := Aside0.mk (Kd.N_below (by (with_reducible repeat (first | apply Kd.N_alloc | apply Kd.N_drewN | apply Kd.N_drew)); exact (Kd.N_mono (Kd.N_far (p := ⟨gb404, 5, none⟩) (Kd.N_far (p := ⟨gb404, 4, none⟩) (Kd.N_far (p := ⟨gb404, 3, none⟩) (Kd.N_far (p := ⟨gb404, 2, none⟩) (Kd.N_far (p := ⟨gb404, 1, none⟩) (Kd.N_far (p := ⟨gb404, 0, none⟩) (Kd.N_mono HO_7.out (fun k_ hk => (⟨hk, hk.2⟩ : _ ∧ k_ ≠ gb404))) (fun _ hk => hk.2) (.int .i64 ((rd_T45 l1 x10_1).f0))) (fun _ hk => hk.2) (.int .i64 ((rd_T45 l1 x10_1).f1))) (fun _ hk => hk.2) (.int .i64 ((rd_T45 l1 x10_1).f2))) (fun _ hk => hk.2) (.int .i64 ((rd_T45 l1 x10_1).f3.f0))) (fun _ hk => hk.2) (.int .i64 ((rd_T45 l1 x10_1).f3.f1))) (fun _ hk => hk.2) (.slice A403_5 ((rd_T45 l1 x10_1).f3.f2).length c403_5)) (fun _ h_ => h_.1))) hb); have n1_ := Aside0.mk (Kd.R_below (by (with_reducible repeat (first | apply Kd.R_alloc | apply Kd.R_drewN | apply Kd.R_drew)); exact (Kd.R_mono (Kd.R_far (p := ⟨gb404, 5, none⟩) (Kd.R_far (p := ⟨gb404, 4, none⟩) (Kd.R_far (p := ⟨gb404, 3, none⟩) (Kd.R_far (p := ⟨gb404, 2, none⟩) (Kd.R_far (p := ⟨gb404, 1, none⟩) (Kd.R_far (p := ⟨gb404, 0, none⟩) (Kd.R_types HO_402002.out BK404.out (by decide)) (fun _ hk => hk.2) (.int .i64 ((rd_T45 l1 x10_1).f0))) (fun _ hk => hk.2) (.int .i64 ((rd_T45 l1 x10_1).f1))) (fun _ hk => hk.2) (.int .i64 ((rd_T45 l1 x10_1).f2))) (fun _ hk => hk.2) (.int .i64 ((rd_T45 l1 x10_1).f3.f0))) (fun _ hk => hk.2) (.int .i64 ((rd_T45 l1 x10_1).f3.f1))) (fun _ hk => hk.2) (.slice A403_5 ((rd_T45 l1 x10_1).f3.f2).length c403_5)) (fun _ h_ => h_.1))) hb); have n2_ := Aside0.mk (blk_below (g := gb401) (o := .cells #[.int .i64 x402000_1, .int .i64 x402001_1, u402002] 26 (0, 0)) (by (with_reducible repeat (first | refine blk_drewN ?_ _ | refine blk_drew ?_ | refine blk_alloc ?_ _)); refine blk_far ?_ NB401_404.out _; (with_reducible repeat (first | refine blk_drewN ?_ _ | refine blk_drew ?_ | refine blk_alloc ?_ _)); refine blk_far ?_ NB401_404.out _; (with_reducible repeat (first | refine blk_drewN ?_ _ | refine blk_drew ?_ | refine blk_alloc ?_ _)); refine blk_far ?_ NB401_404.out _; (with_reducible repeat (first | refine blk_drewN ?_ _ | refine blk_drew ?_ | refine blk_alloc ?_ _)); refine blk_far ?_ NB401_404.out _; (with_reducible repeat (first | refine blk_drewN ?_ _ | refine blk_drew ?_ | refine blk_alloc ?_ _)); refine blk_far ?_ NB401_404.out _; (with_reducible repeat (first | refine blk_drewN ?_ _ | refine blk_drew ?_ | refine blk_alloc ?_ _)); refine blk_far ?_ NB401_404.out _; (with_reducible repeat (first | refine blk_drewN ?_ _ | refine blk_drew ?_ | refine blk_alloc ?_ _)); exact BK401.out) hb); have n3_ := Aside0.mk (blk_below (g := gb404) (o := .cells #[.int .i64 ((rd_T45 l1 x10_1).f0), .int .i64 ((rd_T45 l1 x10_1).f1), .int .i64 ((rd_T45 l1 x10_1).f2), .int .i64 ((rd_T45 l1 x10_1).f3.f0), .int .i64 ((rd_T45 l1 x10_1).f3.f1), .slice A403_5 ((rd_T45 l1 x10_1).f3.f2).length c403_5] 45 (0, 0)) (by (with_reducible repeat (first | refine blk_drewN ?_ _ | refine blk_drew ?_ | refine blk_alloc ?_ _)); refine blk_put (cs := #[.int .i64 ((rd_T45 l1 x10_1).f0), .int .i64 ((rd_T45 l1 x10_1).f1), .int .i64 ((rd_T45 l1 x10_1).f2), .int .i64 ((rd_T45 l1 x10_1).f3.f0), .int .i64 ((rd_T45 l1 x10_1).f3.f1), .slice none 0 0]) ?_ 5 _ rfl; (with_reducible repeat (first | refine blk_drewN ?_ _ | refine blk_drew ?_ | refine blk_alloc ?_ _)); refine blk_put (cs := #[.int .i64 ((rd_T45 l1 x10_1).f0), .int .i64 ((rd_T45 l1 x10_1).f1), .int .i64 ((rd_T45 l1 x10_1).f2), .int .i64 ((rd_T45 l1 x10_1).f3.f0), .int .i64 0, .slice none 0 0]) ?_ 4 _ rfl; (with_reducible repeat (first | refine blk_drewN ?_ _ | refine blk_drew ?_ | refine blk_alloc ?_ _)); refine blk_put (cs := #[.int .i64 ((rd_T45 l1 x10_1).f0), .int .i64 ((rd_T45 l1 x10_1).f1), .int .i64 ((rd_T45 l1 x10_1).f2), .int .i64 0, .int .i64 0, .slice none 0 0]) ?_ 3 _ rfl; (with_reducible repeat (first | refine blk_drewN ?_ _ | refine blk_drew ?_ | refine blk_alloc ?_ _)); refine blk_put (cs := #[.int .i64 ((rd_T45 l1 x10_1).f0), .int .i64 ((rd_T45 l1 x10_1).f1), .int .i64 0, .int .i64 0, .int .i64 0, .slice none 0 0]) ?_ 2 _ rfl; (with_reducible repeat (first | refine blk_drewN ?_ _ | refine blk_drew ?_ | refine blk_alloc ?_ _)); refine blk_put (cs := #[.int .i64 ((rd_T45 l1 x10_1).f0), .int .i64 0, .int .i64 0, .int .i64 0, .int .i64 0, .slice none 0 0]) ?_ 1 _ rfl; (with_reducible repeat (first | refine blk_drewN ?_ _ | refine blk_drew ?_ | refine blk_alloc ?_ _)); refine blk_put (cs := #[.int .i64 0, .int .i64 0, .int .i64 0, .int .i64 0, .int .i64 0, .slice none 0 0]) ?_ 0 _ rfl; (with_reducible repeat (first | refine blk_drewN ?_ _ | refine blk_drew ?_ | refine blk_alloc ?_ _)); exact BK404.out) hb); have n4_ := Aside0.mk (below_step (by repeat (first | (with_reducible first | exact HB.out | apply below_alloc | apply pw_below_drewN | apply below_drew1 | refine below_set ?_ GE401.out | refine below_set ?_ GE404.out) | exact HB.out)) hb); clear HO_7; clear HO_402002; clear BK401; clear BK404; clear HB; have HO_7 := n0_; have HO_402002 := n1_; have BK401 := n2_; have BK404 := n3_; have HB := n4_; clear n0_ n1_ n2_ n3_ n4_; (try clear hb); (try clear hb2); (try clear hk); (try clear hi)))
              go_ret
              exact ⟨by first | rfl | (simp [errW_none, errW_some] <;> rfl) | (simp [*, errW_none, errW_some] <;> rfl), by repeat (first | (with_reducible first | exact HB.out | apply below_alloc | apply pw_below_drewN | apply below_drew1 | refine below_set ?_ GE401.out | refine below_set ?_ GE404.out) | exact HB.out)⟩
            · replace c10 := Bool.eq_false_iff.mpr c10
              subst c10
              have H1 : (if ((rd_T45 l1 x10_1).f0) = 1 then ((session_Open.f k1 x7_1 a0 (wrap64 (x10_1 + 1))).bind fun bt406 => (if bt406.2.2 = 0 then (watchmanlaw18_SessionRuns.j1 k1 a0 l1 a2 bt406.1 x8_1 x10_1 x402000_1 x402001_1 x402002_1 ((rd_T45 l1 x10_1).f0) ((rd_T45 l1 x10_1).f1) ((rd_T45 l1 x10_1).f2) ((rd_T45 l1 x10_1).f3.f0) ((rd_T45 l1 x10_1).f3.f1) ((rd_T45 l1 x10_1).f3.f2)) else (watchmanlaw18_SessionRuns.j1 k1 a0 l1 a2 x7_1 x8_1 x10_1 x402000_1 x402001_1 x402002_1 ((rd_T45 l1 x10_1).f0) ((rd_T45 l1 x10_1).f1) ((rd_T45 l1 x10_1).f2) ((rd_T45 l1 x10_1).f3.f0) ((rd_T45 l1 x10_1).f3.f1) ((rd_T45 l1 x10_1).f3.f2)))) else (watchmanlaw18_SessionRuns.j1 k1 a0 l1 a2 x7_1 x8_1 x10_1 x402000_1 x402001_1 x402002_1 ((rd_T45 l1 x10_1).f0) ((rd_T45 l1 x10_1).f1) ((rd_T45 l1 x10_1).f2) ((rd_T45 l1 x10_1).f3.f0) ((rd_T45 l1 x10_1).f3.f1) ((rd_T45 l1 x10_1).f3.f2))) = some r := by rw [if_neg (show ¬ (false = true) by decide)] at H; exact H
              clear H
              have H := H1
              clear H1
              have HC15 := Aside0.mk H
              clear H
              have p403 : 0 ≤ (x10_1 : Int) := of_decide_eq_true (by first | (with_reducible assumption) | assumption)
              have q403 : x10_1 < (l1.length : Int) := of_decide_eq_true (by first | (with_reducible assumption) | assumption)
              obtain ⟨ad403, A403_5, c403_5, e403, hx403_0, hx403_1, hx403_2, hx403_3, hx403_4, hx403_5, hl403_5, hi403_5⟩ := at_T45 HR1.out x10_1 p403 q403
              cases e403
              replace hx403_0 := (HB.out.cell (World.block_lt_of_cell? w _ hx403_0)).trans hx403_0
              replace hx403_1 := (HB.out.cell (World.block_lt_of_cell? w _ hx403_1)).trans hx403_1
              replace hx403_2 := (HB.out.cell (World.block_lt_of_cell? w _ hx403_2)).trans hx403_2
              replace hx403_3 := (HB.out.cell (World.block_lt_of_cell? w _ hx403_3)).trans hx403_3
              replace hx403_4 := (HB.out.cell (World.block_lt_of_cell? w _ hx403_4)).trans hx403_4
              replace hx403_5 := (HB.out.cell (World.block_lt_of_cell? w _ hx403_5)).trans hx403_5
              have HR403_5 := Aside0.mk hi403_5
              have HC403_5 := Aside0.mk hl403_5
              clear hi403_5 hl403_5
              replace p403 := eq_true p403
              replace q403 := eq_true q403
              go_upto_if 37 with (first | ((with_reducible refine gate_dst (N := 11) rfl ?_); refine box_event ?hg (N := 11) ?hd (cs := #[.int .i64 0, .int .i64 0, .int .i64 0, .int .i64 0, .int .i64 0, .slice none 0 0]) (t := 45) ?hr ?_; (case hd => rfl); (case hg => rfl); (case hr => first | (go_simp; done) | (go_simp; rfl)); intro gb404 hg w16 hbox hb; have n0_ := Aside0.mk (Kd.N_below (Kd.N_elderB (by (with_reducible repeat (first | apply Kd.N_alloc | apply Kd.N_drewN | apply Kd.N_drew)); exact HO_7.out) gb404 (Nat.le_of_eq hg.symm)) hb); have n1_ := Aside0.mk (Kd.R_below (by (with_reducible repeat (first | apply Kd.R_alloc | apply Kd.R_drewN | apply Kd.R_drew)); exact HO_402002.out) hb); have n2_ := Aside0.mk (blk_below (g := gb401) (o := .cells #[.int .i64 x402000_1, .int .i64 x402001_1, u402002] 26 (0, 0)) (by (with_reducible repeat (first | refine blk_drewN ?_ _ | refine blk_drew ?_ | refine blk_alloc ?_ _)); exact BK401.out) hb); have n3_ := Aside0.mk (below_step (by repeat (first | (with_reducible first | exact HB.out | apply below_alloc | apply pw_below_drewN | apply below_drew1 | refine below_set ?_ GE401.out) | exact HB.out)) hb); have n4_ := Aside0.mk (hbox); have n5_ := Aside0.mk ((by rw [hg]; exact (below_size (by repeat (first | (with_reducible first | exact HB.out | apply below_alloc | apply pw_below_drewN | apply below_drew1 | refine below_set ?_ GE401.out) | exact HB.out))) : w.heap.size ≤ gb404)); have n6_ := Aside0.mk ((by rw [hg]; exact (below_size (by repeat (first | (with_reducible first | exact HB.out | apply below_alloc | apply pw_below_drewN | apply below_drew1 | refine below_set ?_ GE401.out) | exact HB.out))) : w.heap.size ≤ gb404)); have n7_ := Aside0.mk ((by rw [hg]; exact Nat.ne_of_lt (blk_lt (g := gb401) (o := .cells #[.int .i64 x402000_1, .int .i64 x402001_1, u402002] 26 (0, 0)) (by (with_reducible repeat (first | refine blk_drewN ?_ _ | refine blk_drew ?_ | refine blk_alloc ?_ _)); exact BK401.out)) : gb401 ≠ gb404)); have n8_ := Aside0.mk ((by rw [hg]; exact Nat.ne_of_gt (blk_lt (g := gb401) (o := .cells #[.int .i64 x402000_1, .int .i64 x402001_1, u402002] 26 (0, 0)) (by (with_reducible repeat (first | refine blk_drewN ?_ _ | refine blk_drew ?_ | refine blk_alloc ?_ _)); exact BK401.out)) : gb404 ≠ gb401)); clear HO_7; clear HO_402002; clear BK401; clear HB; have HO_7 := n0_; have HO_402002 := n1_; have BK401 := n2_; have HB := n3_; have BK404 := n4_; have GW404 := n5_; have GE404 := n6_; have NB401_404 := n7_; have NB404_401 := n8_; clear n0_ n1_ n2_ n3_ n4_ n5_ n6_ n7_ n8_; clear hb hbox hg; have hnb17 := NB404_401.out; have hnc17 := NB401_404.out; have hcz18_0 : w16.cell? ⟨gb404, 0, none⟩ = some (.int .i64 0) := (blk_cell BK404.out 0).trans rfl; have hcz18_1 : w16.cell? ⟨gb404, 1, none⟩ = some (.int .i64 0) := (blk_cell BK404.out 1).trans rfl; have hcz18_2 : w16.cell? ⟨gb404, 2, none⟩ = some (.int .i64 0) := (blk_cell BK404.out 2).trans rfl; have hcz18_3 : w16.cell? ⟨gb404, 3, none⟩ = some (.int .i64 0) := (blk_cell BK404.out 3).trans rfl; have hcz18_4 : w16.cell? ⟨gb404, 4, none⟩ = some (.int .i64 0) := (blk_cell BK404.out 4).trans rfl; have hcz18_5 : w16.cell? ⟨gb404, 5, none⟩ = some (.slice none 0 0) := (blk_cell BK404.out 5).trans rfl; have hfz18_0 := blk_frozen BK404.out 0; have hfz18_1 := blk_frozen BK404.out 1; have hfz18_2 := blk_frozen BK404.out 2; have hfz18_3 := blk_frozen BK404.out 3; have hfz18_4 := blk_frozen BK404.out 4; have hfz18_5 := blk_frozen BK404.out 5) | ((with_reducible refine gate_callee (f := 9) rfl ?_); refine goesL_ (some 34) rfl rfl Try.func9 (by kernel_rfl) rfl #[.agg #[.int .i64 ((rd_T45 l1 x10_1).f3.f0), .int .i64 ((rd_T45 l1 x10_1).f3.f1), .slice A403_5 ((rd_T45 l1 x10_1).f3.f2).length c403_5]] rfl (by (try simp only [List.map_toArray, List.map_cons, List.map_nil]); first | done | rfl | (simp only [List.length_drop, List.length_take]; rfl)) ?_; (with_reducible refine (watchmanref18_BigAnswer.calls k1 ((rd_T45 l1 x10_1).f3.f0) ((rd_T45 l1 x10_1).f3.f1) _ _ ((rd_T45 l1 x10_1).f3.f2) false _ ?side1 ?side2 A9.out).mono ?_); (case side1 => exact Kd.C_below HR403_5.out (by repeat (first | (with_reducible first | exact HB.out | apply below_alloc | apply pw_below_drewN | apply below_drew1 | refine below_set ?_ GE401.out | refine below_set ?_ GE404.out) | exact HB.out))); (case side2 => exact HC403_5.out); rintro e w19 ⟨rfl, hb⟩; refine ⟨_, rfl, ?_⟩; have n0_ := Aside0.mk (Kd.N_below (by (with_reducible repeat (first | apply Kd.N_alloc | apply Kd.N_drewN | apply Kd.N_drew)); exact (Kd.N_mono (Kd.N_far (p := ⟨gb404, 5, none⟩) (Kd.N_far (p := ⟨gb404, 4, none⟩) (Kd.N_far (p := ⟨gb404, 3, none⟩) (Kd.N_far (p := ⟨gb404, 2, none⟩) (Kd.N_far (p := ⟨gb404, 1, none⟩) (Kd.N_far (p := ⟨gb404, 0, none⟩) (Kd.N_mono HO_7.out (fun k_ hk => (⟨hk, hk.2⟩ : _ ∧ k_ ≠ gb404))) (fun _ hk => hk.2) (.int .i64 ((rd_T45 l1 x10_1).f0))) (fun _ hk => hk.2) (.int .i64 ((rd_T45 l1 x10_1).f1))) (fun _ hk => hk.2) (.int .i64 ((rd_T45 l1 x10_1).f2))) (fun _ hk => hk.2) (.int .i64 ((rd_T45 l1 x10_1).f3.f0))) (fun _ hk => hk.2) (.int .i64 ((rd_T45 l1 x10_1).f3.f1))) (fun _ hk => hk.2) (.slice A403_5 ((rd_T45 l1 x10_1).f3.f2).length c403_5)) (fun _ h_ => h_.1))) hb); have n1_ := Aside0.mk (Kd.R_below (by (with_reducible repeat (first | apply Kd.R_alloc | apply Kd.R_drewN | apply Kd.R_drew)); exact (Kd.R_mono (Kd.R_far (p := ⟨gb404, 5, none⟩) (Kd.R_far (p := ⟨gb404, 4, none⟩) (Kd.R_far (p := ⟨gb404, 3, none⟩) (Kd.R_far (p := ⟨gb404, 2, none⟩) (Kd.R_far (p := ⟨gb404, 1, none⟩) (Kd.R_far (p := ⟨gb404, 0, none⟩) (Kd.R_types HO_402002.out BK404.out (by decide)) (fun _ hk => hk.2) (.int .i64 ((rd_T45 l1 x10_1).f0))) (fun _ hk => hk.2) (.int .i64 ((rd_T45 l1 x10_1).f1))) (fun _ hk => hk.2) (.int .i64 ((rd_T45 l1 x10_1).f2))) (fun _ hk => hk.2) (.int .i64 ((rd_T45 l1 x10_1).f3.f0))) (fun _ hk => hk.2) (.int .i64 ((rd_T45 l1 x10_1).f3.f1))) (fun _ hk => hk.2) (.slice A403_5 ((rd_T45 l1 x10_1).f3.f2).length c403_5)) (fun _ h_ => h_.1))) hb); have n2_ := Aside0.mk (blk_below (g := gb401) (o := .cells #[.int .i64 x402000_1, .int .i64 x402001_1, u402002] 26 (0, 0)) (by (with_reducible repeat (first | refine blk_drewN ?_ _ | refine blk_drew ?_ | refine blk_alloc ?_ _)); refine blk_far ?_ NB401_404.out _; (with_reducible repeat (first | refine blk_drewN ?_ _ | refine blk_drew ?_ | refine blk_alloc ?_ _)); refine blk_far ?_ NB401_404.out _; (with_reducible repeat (first | refine blk_drewN ?_ _ | refine blk_drew ?_ | refine blk_alloc ?_ _)); refine blk_far ?_ NB401_404.out _; (with_reducible repeat (first | refine blk_drewN ?_ _ | refine blk_drew ?_ | refine blk_alloc ?_ _)); refine blk_far ?_ NB401_404.out _; (with_reducible repeat (first | refine blk_drewN ?_ _ | refine blk_drew ?_ | refine blk_alloc ?_ _)); refine blk_far ?_ NB401_404.out _; (with_reducible repeat (first | refine blk_drewN ?_ _ | refine blk_drew ?_ | refine blk_alloc ?_ _)); refine blk_far ?_ NB401_404.out _; (with_reducible repeat (first | refine blk_drewN ?_ _ | refine blk_drew ?_ | refine blk_alloc ?_ _)); exact BK401.out) hb); have n3_ := Aside0.mk (blk_below (g := gb404) (o := .cells #[.int .i64 ((rd_T45 l1 x10_1).f0), .int .i64 ((rd_T45 l1 x10_1).f1), .int .i64 ((rd_T45 l1 x10_1).f2), .int .i64 ((rd_T45 l1 x10_1).f3.f0), .int .i64 ((rd_T45 l1 x10_1).f3.f1), .slice A403_5 ((rd_T45 l1 x10_1).f3.f2).length c403_5] 45 (0, 0)) (by (with_reducible repeat (first | refine blk_drewN ?_ _ | refine blk_drew ?_ | refine blk_alloc ?_ _)); refine blk_put (cs := #[.int .i64 ((rd_T45 l1 x10_1).f0), .int .i64 ((rd_T45 l1 x10_1).f1), .int .i64 ((rd_T45 l1 x10_1).f2), .int .i64 ((rd_T45 l1 x10_1).f3.f0), .int .i64 ((rd_T45 l1 x10_1).f3.f1), .slice none 0 0]) ?_ 5 _ rfl; (with_reducible repeat (first | refine blk_drewN ?_ _ | refine blk_drew ?_ | refine blk_alloc ?_ _)); refine blk_put (cs := #[.int .i64 ((rd_T45 l1 x10_1).f0), .int .i64 ((rd_T45 l1 x10_1).f1), .int .i64 ((rd_T45 l1 x10_1).f2), .int .i64 ((rd_T45 l1 x10_1).f3.f0), .int .i64 0, .slice none 0 0]) ?_ 4 _ rfl; (with_reducible repeat (first | refine blk_drewN ?_ _ | refine blk_drew ?_ | refine blk_alloc ?_ _)); refine blk_put (cs := #[.int .i64 ((rd_T45 l1 x10_1).f0), .int .i64 ((rd_T45 l1 x10_1).f1), .int .i64 ((rd_T45 l1 x10_1).f2), .int .i64 0, .int .i64 0, .slice none 0 0]) ?_ 3 _ rfl; (with_reducible repeat (first | refine blk_drewN ?_ _ | refine blk_drew ?_ | refine blk_alloc ?_ _)); refine blk_put (cs := #[.int .i64 ((rd_T45 l1 x10_1).f0), .int .i64 ((rd_T45 l1 x10_1).f1), .int .i64 0, .int .i64 0, .int .i64 0, .slice none 0 0]) ?_ 2 _ rfl; (with_reducible repeat (first | refine blk_drewN ?_ _ | refine blk_drew ?_ | refine blk_alloc ?_ _)); refine blk_put (cs := #[.int .i64 ((rd_T45 l1 x10_1).f0), .int .i64 0, .int .i64 0, .int .i64 0, .int .i64 0, .slice none 0 0]) ?_ 1 _ rfl; (with_reducible repeat (first | refine blk_drewN ?_ _ | refine blk_drew ?_ | refine blk_alloc ?_ _)); refine blk_put (cs := #[.int .i64 0, .int .i64 0, .int .i64 0, .int .i64 0, .int .i64 0, .slice none 0 0]) ?_ 0 _ rfl; (with_reducible repeat (first | refine blk_drewN ?_ _ | refine blk_drew ?_ | refine blk_alloc ?_ _)); exact BK404.out) hb); have n4_ := Aside0.mk (below_step (by repeat (first | (with_reducible first | exact HB.out | apply below_alloc | apply pw_below_drewN | apply below_drew1 | refine below_set ?_ GE401.out | refine below_set ?_ GE404.out) | exact HB.out)) hb); clear HO_7; clear HO_402002; clear BK401; clear BK404; clear HB; have HO_7 := n0_; have HO_402002 := n1_; have BK401 := n2_; have BK404 := n3_; have HB := n4_; clear n0_ n1_ n2_ n3_ n4_; (try clear hb); (try clear hb2); (try clear hk); (try clear hi); have hcz20_0 : w19.cell? ⟨gb404, 0, none⟩ = some (.int .i64 ((rd_T45 l1 x10_1).f0)) := (blk_cell BK404.out 0).trans rfl; have hcz20_1 : w19.cell? ⟨gb404, 1, none⟩ = some (.int .i64 ((rd_T45 l1 x10_1).f1)) := (blk_cell BK404.out 1).trans rfl; have hcz20_2 : w19.cell? ⟨gb404, 2, none⟩ = some (.int .i64 ((rd_T45 l1 x10_1).f2)) := (blk_cell BK404.out 2).trans rfl; have hcz20_3 : w19.cell? ⟨gb404, 3, none⟩ = some (.int .i64 ((rd_T45 l1 x10_1).f3.f0)) := (blk_cell BK404.out 3).trans rfl; have hcz20_4 : w19.cell? ⟨gb404, 4, none⟩ = some (.int .i64 ((rd_T45 l1 x10_1).f3.f1)) := (blk_cell BK404.out 4).trans rfl; have hcz20_5 : w19.cell? ⟨gb404, 5, none⟩ = some (.slice A403_5 ((rd_T45 l1 x10_1).f3.f2).length c403_5) := (blk_cell BK404.out 5).trans rfl; have hfz20_0 := blk_frozen BK404.out 0; have hfz20_1 := blk_frozen BK404.out 1; have hfz20_2 := blk_frozen BK404.out 2; have hfz20_3 := blk_frozen BK404.out 3; have hfz20_4 := blk_frozen BK404.out 4; have hfz20_5 := blk_frozen BK404.out 5))
              (try simp only [Act.put, List.setIfInBounds_toArray, List.set_cons_zero, List.set_cons_succ])
              go_cut [7] (fun v7 wc => ∃ (kq : Nat) (x7_14 : List (S39)), Aside0 (watchmanlaw18_SessionRuns.j1 kq a0 l1 a2 x7_14 x8_1 x10_1 x402000_1 x402001_1 x402002_1 ((rd_T45 l1 x10_1).f0) ((rd_T45 l1 x10_1).f1) ((rd_T45 l1 x10_1).f2) ((rd_T45 l1 x10_1).f3.f0) ((rd_T45 l1 x10_1).f3.f1) ((rd_T45 l1 x10_1).f3.f2) = some r) ∧ Aside0 (kq ≤ k1) ∧ Aside0 (Kd.N k39 39 wc w.heap.size (fun k_ => some k_ ≠ (u402002 : Value).ownBlock ∧ k_ ≠ gb401 ∧ k_ ≠ gb404) v7 x7_14) ∧ Aside0 (Kd.R Kd.string 9 wc w.heap.size (fun _ => True) u402002 x402002_1) ∧ Aside0 (wc.heap[gb401]? = some (.cells #[.int .i64 x402000_1, .int .i64 x402001_1, u402002] 26 (0, 0))) ∧ Aside0 (wc.heap[gb404]? = some (.cells #[.int .i64 ((rd_T45 l1 x10_1).f0), .int .i64 ((rd_T45 l1 x10_1).f1), .int .i64 ((rd_T45 l1 x10_1).f2), .int .i64 ((rd_T45 l1 x10_1).f3.f0), .int .i64 ((rd_T45 l1 x10_1).f3.f1), (.slice A403_5 ((rd_T45 l1 x10_1).f3.f2).length c403_5)] 45 (0, 0))) ∧ Aside0 (Below w.heap.size w wc))
              case first =>
                have H := HC15.out
                clear HC15
                by_cases c21 : ((rd_T45 l1 x10_1).f0) = 1
                · rw [if_pos c21] at H
                  have c21b0 : (((rd_T45 l1 x10_1).f0) == 1) = true := beq_iff_eq.mpr c21
                  have c21b1 : (((rd_T45 l1 x10_1).f0) != 1) = false := bne_eq_false_iff_eq.mpr c21
                  clear c21
                  (first | rw [c21b0] | (simp only [i64_w, i32_w]; rw [c21b0]) | skip)
                  replace H := Option.bind_eq_some_iff.mp H
                  obtain ⟨⟨t406, t407, t408⟩, A220, H⟩ := H
                  replace H : (if t408 = 0 then (watchmanlaw18_SessionRuns.j1 k1 a0 l1 a2 t406 x8_1 x10_1 x402000_1 x402001_1 x402002_1 ((rd_T45 l1 x10_1).f0) ((rd_T45 l1 x10_1).f1) ((rd_T45 l1 x10_1).f2) ((rd_T45 l1 x10_1).f3.f0) ((rd_T45 l1 x10_1).f3.f1) ((rd_T45 l1 x10_1).f3.f2)) else (watchmanlaw18_SessionRuns.j1 k1 a0 l1 a2 x7_1 x8_1 x10_1 x402000_1 x402001_1 x402002_1 ((rd_T45 l1 x10_1).f0) ((rd_T45 l1 x10_1).f1) ((rd_T45 l1 x10_1).f2) ((rd_T45 l1 x10_1).f3.f0) ((rd_T45 l1 x10_1).f3.f1) ((rd_T45 l1 x10_1).f3.f2))) = some r := H
                  have A22 := Aside0.mk A220
                  clear A220
                  by_cases c23 : t408 = 0
                  · rw [if_pos c23] at H
                    have c23b0 : (t408 == 0) = true := beq_iff_eq.mpr c23
                    have c23b1 : (t408 != 0) = false := bne_eq_false_iff_eq.mpr c23
                    clear c23
                    have H' := Aside0.mk H
                    clear H
                    obtain ⟨Ao24, co24, eo24⟩ := Kd.N_slice HO_7.out
                    subst eo24
                    go_wp2_with (first | ((with_reducible refine gate_callee (f := 15) rfl ?_); refine goesL_ (some 43) rfl rfl Try.func15 (by kernel_rfl) rfl #[.slice Ao24 x7_1.length co24, .int .i64 a0, .int .i64 (wrap64 (x10_1 + 1))] rfl (by (try simp only [List.map_toArray, List.map_cons, List.map_nil]); first | done | rfl | (simp only [List.length_drop, List.length_take]; rfl)) ?_; (with_reducible refine (session_Open.calls k1 _ _ x7_1 a0 (wrap64 (x10_1 + 1)) t406 t407 t408 _ ?side1 ?side2 A22.out).mono ?_); (case side1 => repeat (first | exact (Kd.N_reads' HO_7.out).2.2 | (with_reducible refine Kd.C_alloc ?_ _) | (with_reducible refine Kd.C_drewN ?_ _) | (with_reducible refine Kd.C_drew ?_))); (case side2 => exact (Kd.N_reads' HO_7.out).2.1); rintro e w25 ⟨v409, rfl, ho0, hb⟩; refine ⟨_, rfl, ?_⟩; have n0_ := Aside0.mk (Kd.N_elder' (by (with_reducible repeat (first | apply Kd.N_alloc | apply Kd.N_drewN | apply Kd.N_drew)); exact HO_7.out) (Kd.N_base (Kd.S_N ho0)) hb); have n1_ := Aside0.mk (Kd.R_below (by (with_reducible repeat (first | apply Kd.R_alloc | apply Kd.R_drewN | apply Kd.R_drew)); exact HO_402002.out) hb); have n2_ := Aside0.mk (Kd.N_lower (Kd.N_mono (ok' := fun k_ => some k_ ≠ (.slice Ao24 x7_1.length co24 : Value).ownBlock ∧ some k_ ≠ (u402002 : Value).ownBlock ∧ k_ ≠ gb401 ∧ k_ ≠ gb404) (Kd.S_N (Kd.S_bound ho0)) (fun k_ hk_ => ⟨(Kd.fresh' (Kd.N_lt (by (with_reducible repeat (first | apply Kd.N_alloc | apply Kd.N_drewN | apply Kd.N_drew)); exact HO_7.out)) k_ hk_.2.1), (Kd.fresh' (Kd.R_lt (by (with_reducible repeat (first | apply Kd.R_alloc | apply Kd.R_drewN | apply Kd.R_drew)); exact HO_402002.out)) k_ hk_.2.1), (Kd.freshB (g := gb401) (o := .cells #[.int .i64 x402000_1, .int .i64 x402001_1, u402002] 26 (0, 0)) (by (with_reducible repeat (first | refine blk_drewN ?_ _ | refine blk_drew ?_ | refine blk_alloc ?_ _)); exact BK401.out) k_ hk_.2.1), (Kd.freshB (g := gb404) (o := .cells #[.int .i64 ((rd_T45 l1 x10_1).f0), .int .i64 ((rd_T45 l1 x10_1).f1), .int .i64 ((rd_T45 l1 x10_1).f2), .int .i64 ((rd_T45 l1 x10_1).f3.f0), .int .i64 ((rd_T45 l1 x10_1).f3.f1), .slice A403_5 ((rd_T45 l1 x10_1).f3.f2).length c403_5] 45 (0, 0)) (by (with_reducible repeat (first | refine blk_drewN ?_ _ | refine blk_drew ?_ | refine blk_alloc ?_ _)); exact BK404.out) k_ hk_.2.1)⟩)) (below_size (by repeat (first | (with_reducible first | exact HB.out | apply below_alloc | apply pw_below_drewN | apply below_drew1 | refine below_set ?_ GE401.out | refine below_set ?_ GE404.out) | exact HB.out)))); have n3_ := Aside0.mk (blk_below (g := gb401) (o := .cells #[.int .i64 x402000_1, .int .i64 x402001_1, u402002] 26 (0, 0)) (by (with_reducible repeat (first | refine blk_drewN ?_ _ | refine blk_drew ?_ | refine blk_alloc ?_ _)); exact BK401.out) hb); have n4_ := Aside0.mk (blk_below (g := gb404) (o := .cells #[.int .i64 ((rd_T45 l1 x10_1).f0), .int .i64 ((rd_T45 l1 x10_1).f1), .int .i64 ((rd_T45 l1 x10_1).f2), .int .i64 ((rd_T45 l1 x10_1).f3.f0), .int .i64 ((rd_T45 l1 x10_1).f3.f1), .slice A403_5 ((rd_T45 l1 x10_1).f3.f2).length c403_5] 45 (0, 0)) (by (with_reducible repeat (first | refine blk_drewN ?_ _ | refine blk_drew ?_ | refine blk_alloc ?_ _)); exact BK404.out) hb); have n5_ := Aside0.mk (below_step (by repeat (first | (with_reducible first | exact HB.out | apply below_alloc | apply pw_below_drewN | apply below_drew1 | refine below_set ?_ GE401.out | refine below_set ?_ GE404.out) | exact HB.out)) hb); clear HO_7; clear HO_402002; clear BK401; clear BK404; clear HB; have HO_7 := n0_; have HO_402002 := n1_; have HO410 := n2_; have BK401 := n3_; have BK404 := n4_; have HB := n5_; clear n0_ n1_ n2_ n3_ n4_ n5_; (try clear hb); (try clear hb2); (try clear hk); (try clear hi); (try clear ho0)))
                    go_meet
                    case rel => exact ⟨_, (t406), H', ⟨by have := HK1.out; first | omega | exact Nat.le_refl _⟩, ⟨by (with_reducible repeat (first | apply Kd.N_alloc | apply Kd.N_drewN | apply Kd.N_drew)); exact Kd.N_mono HO410.out (fun _ hk => ⟨hk.2.1, ⟨hk.2.2.1, hk.2.2.2⟩⟩)⟩, ⟨by (with_reducible repeat (first | apply Kd.R_alloc | apply Kd.R_drewN | apply Kd.R_drew)); exact HO_402002.out⟩, ⟨by (with_reducible repeat (first | refine blk_drewN ?_ _ | refine blk_drew ?_ | refine blk_alloc ?_ _)); exact BK401.out⟩, ⟨by (with_reducible repeat (first | refine blk_drewN ?_ _ | refine blk_drew ?_ | refine blk_alloc ?_ _)); exact BK404.out⟩, ⟨by repeat (first | (with_reducible first | exact HB.out | apply below_alloc | apply pw_below_drewN | apply below_drew1 | refine below_set ?_ GE401.out | refine below_set ?_ GE404.out) | exact HB.out)⟩⟩
                  · rw [if_neg c23] at H
                    have c23b0 : (t408 == 0) = false := beq_eq_false_iff_ne.mpr c23
                    have c23b1 : (t408 != 0) = true := bne_iff_ne.mpr c23
                    have H' := Aside0.mk H
                    clear H
                    obtain ⟨Ao26, co26, eo26⟩ := Kd.N_slice HO_7.out
                    subst eo26
                    go_wp2_with (first | ((with_reducible refine gate_callee (f := 15) rfl ?_); refine goesL_ (some 43) rfl rfl Try.func15 (by kernel_rfl) rfl #[.slice Ao26 x7_1.length co26, .int .i64 a0, .int .i64 (wrap64 (x10_1 + 1))] rfl (by (try simp only [List.map_toArray, List.map_cons, List.map_nil]); first | done | rfl | (simp only [List.length_drop, List.length_take]; rfl)) ?_; (with_reducible refine (session_Open.calls k1 _ _ x7_1 a0 (wrap64 (x10_1 + 1)) t406 t407 t408 _ ?side1 ?side2 A22.out).mono ?_); (case side1 => repeat (first | exact (Kd.N_reads' HO_7.out).2.2 | (with_reducible refine Kd.C_alloc ?_ _) | (with_reducible refine Kd.C_drewN ?_ _) | (with_reducible refine Kd.C_drew ?_))); (case side2 => exact (Kd.N_reads' HO_7.out).2.1); rintro e w27 ⟨v409, rfl, ho0, hb⟩; refine ⟨_, rfl, ?_⟩; have n0_ := Aside0.mk (Kd.N_elder' (by (with_reducible repeat (first | apply Kd.N_alloc | apply Kd.N_drewN | apply Kd.N_drew)); exact HO_7.out) (Kd.N_base (Kd.S_N ho0)) hb); have n1_ := Aside0.mk (Kd.R_below (by (with_reducible repeat (first | apply Kd.R_alloc | apply Kd.R_drewN | apply Kd.R_drew)); exact HO_402002.out) hb); have n2_ := Aside0.mk (Kd.N_lower (Kd.N_mono (ok' := fun k_ => some k_ ≠ (.slice Ao26 x7_1.length co26 : Value).ownBlock ∧ some k_ ≠ (u402002 : Value).ownBlock ∧ k_ ≠ gb401 ∧ k_ ≠ gb404) (Kd.S_N (Kd.S_bound ho0)) (fun k_ hk_ => ⟨(Kd.fresh' (Kd.N_lt (by (with_reducible repeat (first | apply Kd.N_alloc | apply Kd.N_drewN | apply Kd.N_drew)); exact HO_7.out)) k_ hk_.2.1), (Kd.fresh' (Kd.R_lt (by (with_reducible repeat (first | apply Kd.R_alloc | apply Kd.R_drewN | apply Kd.R_drew)); exact HO_402002.out)) k_ hk_.2.1), (Kd.freshB (g := gb401) (o := .cells #[.int .i64 x402000_1, .int .i64 x402001_1, u402002] 26 (0, 0)) (by (with_reducible repeat (first | refine blk_drewN ?_ _ | refine blk_drew ?_ | refine blk_alloc ?_ _)); exact BK401.out) k_ hk_.2.1), (Kd.freshB (g := gb404) (o := .cells #[.int .i64 ((rd_T45 l1 x10_1).f0), .int .i64 ((rd_T45 l1 x10_1).f1), .int .i64 ((rd_T45 l1 x10_1).f2), .int .i64 ((rd_T45 l1 x10_1).f3.f0), .int .i64 ((rd_T45 l1 x10_1).f3.f1), .slice A403_5 ((rd_T45 l1 x10_1).f3.f2).length c403_5] 45 (0, 0)) (by (with_reducible repeat (first | refine blk_drewN ?_ _ | refine blk_drew ?_ | refine blk_alloc ?_ _)); exact BK404.out) k_ hk_.2.1)⟩)) (below_size (by repeat (first | (with_reducible first | exact HB.out | apply below_alloc | apply pw_below_drewN | apply below_drew1 | refine below_set ?_ GE401.out | refine below_set ?_ GE404.out) | exact HB.out)))); have n3_ := Aside0.mk (blk_below (g := gb401) (o := .cells #[.int .i64 x402000_1, .int .i64 x402001_1, u402002] 26 (0, 0)) (by (with_reducible repeat (first | refine blk_drewN ?_ _ | refine blk_drew ?_ | refine blk_alloc ?_ _)); exact BK401.out) hb); have n4_ := Aside0.mk (blk_below (g := gb404) (o := .cells #[.int .i64 ((rd_T45 l1 x10_1).f0), .int .i64 ((rd_T45 l1 x10_1).f1), .int .i64 ((rd_T45 l1 x10_1).f2), .int .i64 ((rd_T45 l1 x10_1).f3.f0), .int .i64 ((rd_T45 l1 x10_1).f3.f1), .slice A403_5 ((rd_T45 l1 x10_1).f3.f2).length c403_5] 45 (0, 0)) (by (with_reducible repeat (first | refine blk_drewN ?_ _ | refine blk_drew ?_ | refine blk_alloc ?_ _)); exact BK404.out) hb); have n5_ := Aside0.mk (below_step (by repeat (first | (with_reducible first | exact HB.out | apply below_alloc | apply pw_below_drewN | apply below_drew1 | refine below_set ?_ GE401.out | refine below_set ?_ GE404.out) | exact HB.out)) hb); clear HO_7; clear HO_402002; clear BK401; clear BK404; clear HB; have HO_7 := n0_; have HO_402002 := n1_; have HO410 := n2_; have BK401 := n3_; have BK404 := n4_; have HB := n5_; clear n0_ n1_ n2_ n3_ n4_ n5_; (try clear hb); (try clear hb2); (try clear hk); (try clear hi); (try clear ho0)))
                    go_meet
                    case rel => exact ⟨_, (x7_1), H', ⟨by have := HK1.out; first | omega | exact Nat.le_refl _⟩, ⟨by (with_reducible repeat (first | apply Kd.N_alloc | apply Kd.N_drewN | apply Kd.N_drew)); exact Kd.N_mono HO_7.out (fun _ hk => ⟨hk.1.1.1, ⟨hk.1.1.2, hk.1.2⟩⟩)⟩, ⟨by (with_reducible repeat (first | apply Kd.R_alloc | apply Kd.R_drewN | apply Kd.R_drew)); exact HO_402002.out⟩, ⟨by (with_reducible repeat (first | refine blk_drewN ?_ _ | refine blk_drew ?_ | refine blk_alloc ?_ _)); exact BK401.out⟩, ⟨by (with_reducible repeat (first | refine blk_drewN ?_ _ | refine blk_drew ?_ | refine blk_alloc ?_ _)); exact BK404.out⟩, ⟨by repeat (first | (with_reducible first | exact HB.out | apply below_alloc | apply pw_below_drewN | apply below_drew1 | refine below_set ?_ GE401.out | refine below_set ?_ GE404.out) | exact HB.out)⟩⟩
                · rw [if_neg c21] at H
                  have c21b0 : (((rd_T45 l1 x10_1).f0) == 1) = false := beq_eq_false_iff_ne.mpr c21
                  have c21b1 : (((rd_T45 l1 x10_1).f0) != 1) = true := bne_iff_ne.mpr c21
                  (first | rw [c21b0] | (simp only [i64_w, i32_w]; rw [c21b0]) | skip)
                  have H' := Aside0.mk H
                  clear H
                  go_wp2
                  go_meet
                  case rel => exact ⟨_, (x7_1), H', ⟨by have := HK1.out; first | omega | exact Nat.le_refl _⟩, ⟨by (with_reducible repeat (first | apply Kd.N_alloc | apply Kd.N_drewN | apply Kd.N_drew)); exact Kd.N_mono HO_7.out (fun _ hk => ⟨hk.1.1, ⟨hk.1.2, hk.2⟩⟩)⟩, ⟨by (with_reducible repeat (first | apply Kd.R_alloc | apply Kd.R_drewN | apply Kd.R_drew)); exact HO_402002.out⟩, ⟨by (with_reducible repeat (first | refine blk_drewN ?_ _ | refine blk_drew ?_ | refine blk_alloc ?_ _)); exact BK401.out⟩, ⟨by (with_reducible repeat (first | refine blk_drewN ?_ _ | refine blk_drew ?_ | refine blk_alloc ?_ _)); exact BK404.out⟩, ⟨by repeat (first | (with_reducible first | exact HB.out | apply below_alloc | apply pw_below_drewN | apply below_drew1 | refine below_set ?_ GE401.out | refine below_set ?_ GE404.out) | exact HB.out)⟩⟩
              case rest =>
                clear HC15
                try clear c1
                try clear c2
                try clear p2
                try clear c4
                try clear c4b0
                try clear c4b1
                try clear p4
                try clear q4
                try clear hx4
                try clear c5
                try clear p6
                try clear c7
                try clear c7b0
                try clear c8
                try clear c8b0
                try clear c9
                try clear c10
                try clear c12
                try clear c15
                try clear c17
                try clear c21
                try clear c21b0
                try clear c21b1
                try clear c23
                try clear c23b0
                try clear c23b1
                try clear hcz13_0
                try clear hcz13_1
                try clear hcz13_2
                try clear hcz13_3
                try clear hcz13_4
                try clear hcz13_5
                try clear hcz18_0
                try clear hcz18_1
                try clear hcz18_2
                try clear hcz18_3
                try clear hcz18_4
                try clear hcz18_5
                try clear hcz20_0
                try clear hcz20_1
                try clear hcz20_2
                try clear hcz20_3
                try clear hcz20_4
                try clear hcz20_5
                try clear hfz13_0
                try clear hfz13_1
                try clear hfz13_2
                try clear hfz13_3
                try clear hfz13_4
                try clear hfz13_5
                try clear hfz18_0
                try clear hfz18_1
                try clear hfz18_2
                try clear hfz18_3
                try clear hfz18_4
                try clear hfz18_5
                try clear hfz20_0
                try clear hfz20_1
                try clear hfz20_2
                try clear hfz20_3
                try clear hfz20_4
                try clear hfz20_5
                try clear hx403_0
                try clear hx403_1
                try clear hx403_2
                try clear hx403_3
                try clear hx403_4
                try clear hx403_5
                try clear p2
                try clear p403
                try clear q403
                obtain ⟨kq, x7_14, HA, HJ14, HO_7, HO_402002, BK401, BK404, HB⟩ := hcut
                cases kq with
                | zero => exact absurd HA.out (by simp [watchmanlaw18_SessionRuns.j1])
                | succ kj14 =>
                  have H := HA.out
                  clear HA
                  simp only [watchmanlaw18_SessionRuns.j1] at H
                  have HC28 := Aside0.mk H
                  clear H
                  have hnb29 := NB404_401.out
                  have hnc29 := NB401_404.out
                  have hcz30_0 : wc.cell? ⟨gb404, 0, none⟩ = some (.int .i64 ((rd_T45 l1 x10_1).f0)) := (blk_cell BK404.out 0).trans rfl
                  have hcz30_1 : wc.cell? ⟨gb404, 1, none⟩ = some (.int .i64 ((rd_T45 l1 x10_1).f1)) := (blk_cell BK404.out 1).trans rfl
                  have hcz30_2 : wc.cell? ⟨gb404, 2, none⟩ = some (.int .i64 ((rd_T45 l1 x10_1).f2)) := (blk_cell BK404.out 2).trans rfl
                  have hcz30_3 : wc.cell? ⟨gb404, 3, none⟩ = some (.int .i64 ((rd_T45 l1 x10_1).f3.f0)) := (blk_cell BK404.out 3).trans rfl
                  have hcz30_4 : wc.cell? ⟨gb404, 4, none⟩ = some (.int .i64 ((rd_T45 l1 x10_1).f3.f1)) := (blk_cell BK404.out 4).trans rfl
                  have hcz30_5 : wc.cell? ⟨gb404, 5, none⟩ = some (.slice A403_5 ((rd_T45 l1 x10_1).f3.f2).length c403_5) := (blk_cell BK404.out 5).trans rfl
                  have hfz30_0 := blk_frozen BK404.out 0
                  have hfz30_1 := blk_frozen BK404.out 1
                  have hfz30_2 := blk_frozen BK404.out 2
                  have hfz30_3 := blk_frozen BK404.out 3
                  have hfz30_4 := blk_frozen BK404.out 4
                  have hfz30_5 := blk_frozen BK404.out 5
                  go_upto_if 52 with (fail)
                  go_cut [7, 8] (fun v7 v8 wc => ∃ (kq : Nat) (x7_27 : List (S39)) (x8_27 : Int) (x402000_27 : Int) (x402001_27 : Int) (x402002_27 : List ByteArray) (u402002 : Value), v8 = .int .i64 x8_27 ∧ Aside0 (watchmanlaw18_SessionRuns.j3 kq a0 l1 a2 x7_27 x8_27 x10_1 x402000_27 x402001_27 x402002_27 = some r) ∧ Aside0 (kq ≤ kj14) ∧ Aside0 (Kd.N k39 39 wc w.heap.size (fun k_ => some k_ ≠ (u402002 : Value).ownBlock ∧ k_ ≠ gb401 ∧ k_ ≠ gb404) v7 x7_27) ∧ Aside0 (Kd.R Kd.string 9 wc w.heap.size (fun _ => True) u402002 x402002_27) ∧ Aside0 (wc.heap[gb401]? = some (.cells #[.int .i64 x402000_27, .int .i64 x402001_27, u402002] 26 (0, 0))) ∧ Aside0 (wc.heap[gb404]? = some (.cells #[.int .i64 ((rd_T45 l1 x10_1).f0), .int .i64 ((rd_T45 l1 x10_1).f1), .int .i64 ((rd_T45 l1 x10_1).f2), .int .i64 ((rd_T45 l1 x10_1).f3.f0), .int .i64 ((rd_T45 l1 x10_1).f3.f1), (.slice A403_5 ((rd_T45 l1 x10_1).f3.f2).length c403_5)] 45 (0, 0))) ∧ Aside0 (Below w.heap.size w wc))
                  case first =>
                    have H := HC28.out
                    clear HC28
                    by_cases c31 : ((rd_T45 l1 x10_1).f0) = 2
                    · rw [if_pos c31] at H
                      have c31b0 : (((rd_T45 l1 x10_1).f0) == 2) = true := beq_iff_eq.mpr c31
                      have c31b1 : (((rd_T45 l1 x10_1).f0) != 2) = false := bne_eq_false_iff_eq.mpr c31
                      clear c31
                      (first | rw [c31b0] | (simp only [i64_w, i32_w]; rw [c31b0]) | skip)
                      replace H := Option.bind_eq_some_iff.mp H
                      obtain ⟨⟨t411, t414⟩, A320, H⟩ := H
                      replace H : (if t414 = 0 then (if ((rd_T45 l1 x10_1).f1) = a2 then (watchmanlaw18_SessionRuns.j2 kj14 a0 l1 a2 t411 x8_1 x10_1 (decide (((rd_T45 l1 x10_1).f2) ≤ x8_1)) x402000_1 x402001_1 x402002_1 ((rd_T45 l1 x10_1).f0) ((rd_T45 l1 x10_1).f1) ((rd_T45 l1 x10_1).f2) ((rd_T45 l1 x10_1).f3.f0) ((rd_T45 l1 x10_1).f3.f1) ((rd_T45 l1 x10_1).f3.f2)) else (watchmanlaw18_SessionRuns.j2 kj14 a0 l1 a2 t411 x8_1 x10_1 false x402000_1 x402001_1 x402002_1 ((rd_T45 l1 x10_1).f0) ((rd_T45 l1 x10_1).f1) ((rd_T45 l1 x10_1).f2) ((rd_T45 l1 x10_1).f3.f0) ((rd_T45 l1 x10_1).f3.f1) ((rd_T45 l1 x10_1).f3.f2))) else (watchmanlaw18_SessionRuns.j3 kj14 a0 l1 a2 x7_14 x8_1 x10_1 x402000_1 x402001_1 x402002_1)) = some r := H
                      have A32 := Aside0.mk A320
                      clear A320
                      by_cases c33 : t414 = 0
                      · rw [if_pos c33] at H
                        have c33b0 : (t414 == 0) = true := beq_iff_eq.mpr c33
                        have c33b1 : (t414 != 0) = false := bne_eq_false_iff_eq.mpr c33
                        clear c33
                        have HC34 := Aside0.mk H
                        clear H
                        have hnb35 := NB404_401.out
                        have hnc35 := NB401_404.out
                        have hcz36_0 : wc.cell? ⟨gb404, 0, none⟩ = some (.int .i64 ((rd_T45 l1 x10_1).f0)) := (blk_cell BK404.out 0).trans rfl
                        have hcz36_1 : wc.cell? ⟨gb404, 1, none⟩ = some (.int .i64 ((rd_T45 l1 x10_1).f1)) := (blk_cell BK404.out 1).trans rfl
                        have hcz36_2 : wc.cell? ⟨gb404, 2, none⟩ = some (.int .i64 ((rd_T45 l1 x10_1).f2)) := (blk_cell BK404.out 2).trans rfl
                        have hcz36_3 : wc.cell? ⟨gb404, 3, none⟩ = some (.int .i64 ((rd_T45 l1 x10_1).f3.f0)) := (blk_cell BK404.out 3).trans rfl
                        have hcz36_4 : wc.cell? ⟨gb404, 4, none⟩ = some (.int .i64 ((rd_T45 l1 x10_1).f3.f1)) := (blk_cell BK404.out 4).trans rfl
                        have hcz36_5 : wc.cell? ⟨gb404, 5, none⟩ = some (.slice A403_5 ((rd_T45 l1 x10_1).f3.f2).length c403_5) := (blk_cell BK404.out 5).trans rfl
                        have hfz36_0 := blk_frozen BK404.out 0
                        have hfz36_1 := blk_frozen BK404.out 1
                        have hfz36_2 := blk_frozen BK404.out 2
                        have hfz36_3 := blk_frozen BK404.out 3
                        have hfz36_4 := blk_frozen BK404.out 4
                        have hfz36_5 := blk_frozen BK404.out 5
                        obtain ⟨Ao37, co37, eo37⟩ := Kd.N_slice HO_7.out
                        subst eo37
                        go_upto_region 20 with (first | ((with_reducible refine gate_callee (f := 10) rfl ?_); refine goesL_ (some 63) rfl rfl Try.func10 (by kernel_rfl) rfl #[.slice Ao37 x7_14.length co37, .int .i64 ((rd_T45 l1 x10_1).f1), .int .i64 ((rd_T45 l1 x10_1).f2), .int .i64 (wrap64 (x10_1 + 1)), .agg #[.int .i64 ((rd_T45 l1 x10_1).f3.f0), .int .i64 ((rd_T45 l1 x10_1).f3.f1), .slice A403_5 ((rd_T45 l1 x10_1).f3.f2).length c403_5]] rfl (by (try simp only [List.map_toArray, List.map_cons, List.map_nil]); first | done | rfl | (simp only [List.length_drop, List.length_take]; rfl)) ?_; (with_reducible refine (session_Put.calls kj14 _ _ x7_14 ((rd_T45 l1 x10_1).f1) ((rd_T45 l1 x10_1).f2) (wrap64 (x10_1 + 1)) ((rd_T45 l1 x10_1).f3.f0) ((rd_T45 l1 x10_1).f3.f1) _ _ ((rd_T45 l1 x10_1).f3.f2) t411 t414 _ ?side1 ?side2 ?side3 ?side4 A32.out).mono ?_); (case side1 => repeat (first | exact (Kd.N_reads' HO_7.out).2.2 | (with_reducible refine Kd.C_alloc ?_ _) | (with_reducible refine Kd.C_drewN ?_ _) | (with_reducible refine Kd.C_drew ?_))); (case side2 => exact (Kd.N_reads' HO_7.out).2.1); (case side3 => repeat (first | exact (Kd.C_below HR403_5.out HB.out) | (with_reducible refine Kd.C_alloc ?_ _) | (with_reducible refine Kd.C_drewN ?_ _) | (with_reducible refine Kd.C_drew ?_))); (case side4 => exact HC403_5.out); rintro e w38 ⟨v412, rfl, ho0, hb⟩; refine ⟨_, rfl, ?_⟩; have n0_ := Aside0.mk (Kd.N_elder' (by (with_reducible repeat (first | apply Kd.N_alloc | apply Kd.N_drewN | apply Kd.N_drew)); exact HO_7.out) (Kd.N_base ho0) hb); have n1_ := Aside0.mk (Kd.R_below (by (with_reducible repeat (first | apply Kd.R_alloc | apply Kd.R_drewN | apply Kd.R_drew)); exact HO_402002.out) hb); have n2_ := Aside0.mk (Kd.N_lower (Kd.N_mono (ok' := fun k_ => some k_ ≠ (.slice Ao37 x7_14.length co37 : Value).ownBlock ∧ some k_ ≠ (u402002 : Value).ownBlock ∧ k_ ≠ gb401 ∧ k_ ≠ gb404) ho0 (fun k_ hk_ => ⟨(Kd.fresh' (Kd.N_lt (by (with_reducible repeat (first | apply Kd.N_alloc | apply Kd.N_drewN | apply Kd.N_drew)); exact HO_7.out)) k_ hk_), (Kd.fresh' (Kd.R_lt (by (with_reducible repeat (first | apply Kd.R_alloc | apply Kd.R_drewN | apply Kd.R_drew)); exact HO_402002.out)) k_ hk_), (Kd.freshB (g := gb401) (o := .cells #[.int .i64 x402000_1, .int .i64 x402001_1, u402002] 26 (0, 0)) (by (with_reducible repeat (first | refine blk_drewN ?_ _ | refine blk_drew ?_ | refine blk_alloc ?_ _)); exact BK401.out) k_ hk_), (Kd.freshB (g := gb404) (o := .cells #[.int .i64 ((rd_T45 l1 x10_1).f0), .int .i64 ((rd_T45 l1 x10_1).f1), .int .i64 ((rd_T45 l1 x10_1).f2), .int .i64 ((rd_T45 l1 x10_1).f3.f0), .int .i64 ((rd_T45 l1 x10_1).f3.f1), .slice A403_5 ((rd_T45 l1 x10_1).f3.f2).length c403_5] 45 (0, 0)) (by (with_reducible repeat (first | refine blk_drewN ?_ _ | refine blk_drew ?_ | refine blk_alloc ?_ _)); exact BK404.out) k_ hk_)⟩)) (below_size (by repeat (first | (with_reducible first | exact HB.out | apply below_alloc | apply pw_below_drewN | apply below_drew1 | refine below_set ?_ GE401.out | refine below_set ?_ GE404.out) | exact HB.out)))); have n3_ := Aside0.mk (blk_below (g := gb401) (o := .cells #[.int .i64 x402000_1, .int .i64 x402001_1, u402002] 26 (0, 0)) (by (with_reducible repeat (first | refine blk_drewN ?_ _ | refine blk_drew ?_ | refine blk_alloc ?_ _)); exact BK401.out) hb); have n4_ := Aside0.mk (blk_below (g := gb404) (o := .cells #[.int .i64 ((rd_T45 l1 x10_1).f0), .int .i64 ((rd_T45 l1 x10_1).f1), .int .i64 ((rd_T45 l1 x10_1).f2), .int .i64 ((rd_T45 l1 x10_1).f3.f0), .int .i64 ((rd_T45 l1 x10_1).f3.f1), .slice A403_5 ((rd_T45 l1 x10_1).f3.f2).length c403_5] 45 (0, 0)) (by (with_reducible repeat (first | refine blk_drewN ?_ _ | refine blk_drew ?_ | refine blk_alloc ?_ _)); exact BK404.out) hb); have n5_ := Aside0.mk (below_step (by repeat (first | (with_reducible first | exact HB.out | apply below_alloc | apply pw_below_drewN | apply below_drew1 | refine below_set ?_ GE401.out | refine below_set ?_ GE404.out) | exact HB.out)) hb); clear HO_7; clear HO_402002; clear BK401; clear BK404; clear HB; have HO_7 := n0_; have HO_402002 := n1_; have HO413 := n2_; have BK401 := n3_; have BK404 := n4_; have HB := n5_; clear n0_ n1_ n2_ n3_ n4_ n5_; (try clear hb); (try clear hb2); (try clear hk); (try clear hi); (try clear ho0)))
                        (try simp only [Act.put, List.setIfInBounds_toArray, List.set_cons_zero, List.set_cons_succ])
                        go_cut [78] (fun v78 wc => ∃ (kq : Nat) (x78_33 : Bool), v78 = .bool x78_33 ∧ Aside0 (watchmanlaw18_SessionRuns.j2 kq a0 l1 a2 t411 x8_1 x10_1 x78_33 x402000_1 x402001_1 x402002_1 ((rd_T45 l1 x10_1).f0) ((rd_T45 l1 x10_1).f1) ((rd_T45 l1 x10_1).f2) ((rd_T45 l1 x10_1).f3.f0) ((rd_T45 l1 x10_1).f3.f1) ((rd_T45 l1 x10_1).f3.f2) = some r) ∧ Aside0 (kq ≤ kj14) ∧ Aside0 (Kd.N k39 39 wc w.heap.size (fun k_ => some k_ ≠ (u402002 : Value).ownBlock ∧ k_ ≠ gb401 ∧ k_ ≠ gb404) v412 t411) ∧ Aside0 (Kd.R Kd.string 9 wc w.heap.size (fun _ => True) u402002 x402002_1) ∧ Aside0 (wc.heap[gb401]? = some (.cells #[.int .i64 x402000_1, .int .i64 x402001_1, u402002] 26 (0, 0))) ∧ Aside0 (wc.heap[gb404]? = some (.cells #[.int .i64 ((rd_T45 l1 x10_1).f0), .int .i64 ((rd_T45 l1 x10_1).f1), .int .i64 ((rd_T45 l1 x10_1).f2), .int .i64 ((rd_T45 l1 x10_1).f3.f0), .int .i64 ((rd_T45 l1 x10_1).f3.f1), (.slice A403_5 ((rd_T45 l1 x10_1).f3.f2).length c403_5)] 45 (0, 0))) ∧ Aside0 (Below w.heap.size w wc))
                        case first =>
                          have H := HC34.out
                          clear HC34
                          by_cases c39 : ((rd_T45 l1 x10_1).f1) = a2
                          · rw [if_pos c39] at H
                            have c39b0 : (((rd_T45 l1 x10_1).f1) == a2) = true := beq_iff_eq.mpr c39
                            have c39b1 : (((rd_T45 l1 x10_1).f1) != a2) = false := bne_eq_false_iff_eq.mpr c39
                            clear c39
                            (first | rw [c39b0] | (simp only [i64_w, i32_w]; rw [c39b0]) | skip)
                            have H' := Aside0.mk H
                            clear H
                            have hnb40 := NB404_401.out
                            have hnc40 := NB401_404.out
                            have hcz41_0 : w38.cell? ⟨gb404, 0, none⟩ = some (.int .i64 ((rd_T45 l1 x10_1).f0)) := (blk_cell BK404.out 0).trans rfl
                            have hcz41_1 : w38.cell? ⟨gb404, 1, none⟩ = some (.int .i64 ((rd_T45 l1 x10_1).f1)) := (blk_cell BK404.out 1).trans rfl
                            have hcz41_2 : w38.cell? ⟨gb404, 2, none⟩ = some (.int .i64 ((rd_T45 l1 x10_1).f2)) := (blk_cell BK404.out 2).trans rfl
                            have hcz41_3 : w38.cell? ⟨gb404, 3, none⟩ = some (.int .i64 ((rd_T45 l1 x10_1).f3.f0)) := (blk_cell BK404.out 3).trans rfl
                            have hcz41_4 : w38.cell? ⟨gb404, 4, none⟩ = some (.int .i64 ((rd_T45 l1 x10_1).f3.f1)) := (blk_cell BK404.out 4).trans rfl
                            have hcz41_5 : w38.cell? ⟨gb404, 5, none⟩ = some (.slice A403_5 ((rd_T45 l1 x10_1).f3.f2).length c403_5) := (blk_cell BK404.out 5).trans rfl
                            have hfz41_0 := blk_frozen BK404.out 0
                            have hfz41_1 := blk_frozen BK404.out 1
                            have hfz41_2 := blk_frozen BK404.out 2
                            have hfz41_3 := blk_frozen BK404.out 3
                            have hfz41_4 := blk_frozen BK404.out 4
                            have hfz41_5 := blk_frozen BK404.out 5
                            go_wp2
                            go_meet
                            case rel => exact ⟨_, (decide (((rd_T45 l1 x10_1).f2) ≤ x8_1)), (by first | rfl | (simp; done) | (simp [*]; done)), H', ⟨by have := HK1.out; have := HJ14.out; first | omega | exact Nat.le_refl _⟩, ⟨by (with_reducible repeat (first | apply Kd.N_alloc | apply Kd.N_drewN | apply Kd.N_drew)); exact Kd.N_mono HO413.out (fun _ hk => ⟨hk.2.1, ⟨hk.2.2.1, hk.2.2.2⟩⟩)⟩, ⟨by (with_reducible repeat (first | apply Kd.R_alloc | apply Kd.R_drewN | apply Kd.R_drew)); exact HO_402002.out⟩, ⟨by (with_reducible repeat (first | refine blk_drewN ?_ _ | refine blk_drew ?_ | refine blk_alloc ?_ _)); exact BK401.out⟩, ⟨by (with_reducible repeat (first | refine blk_drewN ?_ _ | refine blk_drew ?_ | refine blk_alloc ?_ _)); exact BK404.out⟩, ⟨by repeat (first | (with_reducible first | exact HB.out | apply below_alloc | apply pw_below_drewN | apply below_drew1 | refine below_set ?_ GE401.out | refine below_set ?_ GE404.out) | exact HB.out)⟩⟩
                          · rw [if_neg c39] at H
                            have c39b0 : (((rd_T45 l1 x10_1).f1) == a2) = false := beq_eq_false_iff_ne.mpr c39
                            have c39b1 : (((rd_T45 l1 x10_1).f1) != a2) = true := bne_iff_ne.mpr c39
                            (first | rw [c39b0] | (simp only [i64_w, i32_w]; rw [c39b0]) | skip)
                            have H' := Aside0.mk H
                            clear H
                            have hnb42 := NB404_401.out
                            have hnc42 := NB401_404.out
                            have hcz43_0 : w38.cell? ⟨gb404, 0, none⟩ = some (.int .i64 ((rd_T45 l1 x10_1).f0)) := (blk_cell BK404.out 0).trans rfl
                            have hcz43_1 : w38.cell? ⟨gb404, 1, none⟩ = some (.int .i64 ((rd_T45 l1 x10_1).f1)) := (blk_cell BK404.out 1).trans rfl
                            have hcz43_2 : w38.cell? ⟨gb404, 2, none⟩ = some (.int .i64 ((rd_T45 l1 x10_1).f2)) := (blk_cell BK404.out 2).trans rfl
                            have hcz43_3 : w38.cell? ⟨gb404, 3, none⟩ = some (.int .i64 ((rd_T45 l1 x10_1).f3.f0)) := (blk_cell BK404.out 3).trans rfl
                            have hcz43_4 : w38.cell? ⟨gb404, 4, none⟩ = some (.int .i64 ((rd_T45 l1 x10_1).f3.f1)) := (blk_cell BK404.out 4).trans rfl
                            have hcz43_5 : w38.cell? ⟨gb404, 5, none⟩ = some (.slice A403_5 ((rd_T45 l1 x10_1).f3.f2).length c403_5) := (blk_cell BK404.out 5).trans rfl
                            have hfz43_0 := blk_frozen BK404.out 0
                            have hfz43_1 := blk_frozen BK404.out 1
                            have hfz43_2 := blk_frozen BK404.out 2
                            have hfz43_3 := blk_frozen BK404.out 3
                            have hfz43_4 := blk_frozen BK404.out 4
                            have hfz43_5 := blk_frozen BK404.out 5
                            go_wp2
                            go_meet
                            case rel => exact ⟨_, (false), (by first | rfl | (simp; done) | (simp [*]; done)), H', ⟨by have := HK1.out; have := HJ14.out; first | omega | exact Nat.le_refl _⟩, ⟨by (with_reducible repeat (first | apply Kd.N_alloc | apply Kd.N_drewN | apply Kd.N_drew)); exact Kd.N_mono HO413.out (fun _ hk => ⟨hk.2.1, ⟨hk.2.2.1, hk.2.2.2⟩⟩)⟩, ⟨by (with_reducible repeat (first | apply Kd.R_alloc | apply Kd.R_drewN | apply Kd.R_drew)); exact HO_402002.out⟩, ⟨by (with_reducible repeat (first | refine blk_drewN ?_ _ | refine blk_drew ?_ | refine blk_alloc ?_ _)); exact BK401.out⟩, ⟨by (with_reducible repeat (first | refine blk_drewN ?_ _ | refine blk_drew ?_ | refine blk_alloc ?_ _)); exact BK404.out⟩, ⟨by repeat (first | (with_reducible first | exact HB.out | apply below_alloc | apply pw_below_drewN | apply below_drew1 | refine below_set ?_ GE401.out | refine below_set ?_ GE404.out) | exact HB.out)⟩⟩
                        case rest =>
                          clear HC34
                          try clear c1
                          try clear c2
                          try clear p2
                          try clear c3
                          try clear c4
                          try clear c4b0
                          try clear c4b1
                          try clear p4
                          try clear q4
                          try clear hx4
                          try clear c5
                          try clear p6
                          try clear c7
                          try clear c7b0
                          try clear c8
                          try clear c8b0
                          try clear c9
                          try clear c10
                          try clear c12
                          try clear c15
                          try clear c17
                          try clear c21
                          try clear c21b0
                          try clear c21b1
                          try clear c23
                          try clear c23b0
                          try clear c23b1
                          try clear c29
                          try clear c31
                          try clear c31b0
                          try clear c31b1
                          try clear c33
                          try clear c33b0
                          try clear c33b1
                          try clear c35
                          try clear c39
                          try clear c39b0
                          try clear c39b1
                          try clear c40
                          try clear p40
                          try clear q40
                          try clear hx40
                          try clear c42
                          try clear hcz13_0
                          try clear hcz13_1
                          try clear hcz13_2
                          try clear hcz13_3
                          try clear hcz13_4
                          try clear hcz13_5
                          try clear hcz18_0
                          try clear hcz18_1
                          try clear hcz18_2
                          try clear hcz18_3
                          try clear hcz18_4
                          try clear hcz18_5
                          try clear hcz20_0
                          try clear hcz20_1
                          try clear hcz20_2
                          try clear hcz20_3
                          try clear hcz20_4
                          try clear hcz20_5
                          try clear hcz30_0
                          try clear hcz30_1
                          try clear hcz30_2
                          try clear hcz30_3
                          try clear hcz30_4
                          try clear hcz30_5
                          try clear hcz36_0
                          try clear hcz36_1
                          try clear hcz36_2
                          try clear hcz36_3
                          try clear hcz36_4
                          try clear hcz36_5
                          try clear hcz41_0
                          try clear hcz41_1
                          try clear hcz41_2
                          try clear hcz41_3
                          try clear hcz41_4
                          try clear hcz41_5
                          try clear hcz43_0
                          try clear hcz43_1
                          try clear hcz43_2
                          try clear hcz43_3
                          try clear hcz43_4
                          try clear hcz43_5
                          try clear hfz13_0
                          try clear hfz13_1
                          try clear hfz13_2
                          try clear hfz13_3
                          try clear hfz13_4
                          try clear hfz13_5
                          try clear hfz18_0
                          try clear hfz18_1
                          try clear hfz18_2
                          try clear hfz18_3
                          try clear hfz18_4
                          try clear hfz18_5
                          try clear hfz20_0
                          try clear hfz20_1
                          try clear hfz20_2
                          try clear hfz20_3
                          try clear hfz20_4
                          try clear hfz20_5
                          try clear hfz30_0
                          try clear hfz30_1
                          try clear hfz30_2
                          try clear hfz30_3
                          try clear hfz30_4
                          try clear hfz30_5
                          try clear hfz36_0
                          try clear hfz36_1
                          try clear hfz36_2
                          try clear hfz36_3
                          try clear hfz36_4
                          try clear hfz36_5
                          try clear hfz41_0
                          try clear hfz41_1
                          try clear hfz41_2
                          try clear hfz41_3
                          try clear hfz41_4
                          try clear hfz41_5
                          try clear hfz43_0
                          try clear hfz43_1
                          try clear hfz43_2
                          try clear hfz43_3
                          try clear hfz43_4
                          try clear hfz43_5
                          try clear hx403_0
                          try clear hx403_1
                          try clear hx403_2
                          try clear hx403_3
                          try clear hx403_4
                          try clear hx403_5
                          try clear p2
                          try clear p4
                          try clear p403
                          try clear p6
                          try clear q4
                          try clear q403
                          obtain ⟨kq, x78_33, rfl, HA, HJ33, HO_7, HO_402002, BK401, BK404, HB⟩ := hcut
                          cases kq with
                          | zero => exact absurd HA.out (by simp [watchmanlaw18_SessionRuns.j2])
                          | succ kj33 =>
                            have H := HA.out
                            clear HA
                            simp only [watchmanlaw18_SessionRuns.j2] at H
                            by_cases c44 : x78_33 = true
                            · subst c44
                              have H1 : (none) = some r := by rw [if_pos rfl] at H; exact H
                              clear H
                              have H := H1
                              clear H1
                              exact absurd H (by simp)
                            · replace c44 := Bool.eq_false_iff.mpr c44
                              subst c44
                              have H1 : (if ((rd_T45 l1 x10_1).f1) = a2 then ((watchmanref18_OwnAnswer.f ((rd_T45 l1 x10_1).f3.f0) ((rd_T45 l1 x10_1).f3.f1) ((rd_T45 l1 x10_1).f3.f2)).bind fun bt415 => (watchmanlaw18_SessionRuns.j3 kj33 a0 l1 a2 t411 ((rd_T45 l1 x10_1).f2) x10_1 bt415.1 bt415.2.1 bt415.2.2)) else (watchmanlaw18_SessionRuns.j3 kj33 a0 l1 a2 t411 x8_1 x10_1 x402000_1 x402001_1 x402002_1)) = some r := by rw [if_neg (show ¬ (false = true) by decide)] at H; exact H
                              clear H
                              have H := H1
                              clear H1
                              by_cases c45 : ((rd_T45 l1 x10_1).f1) = a2
                              · rw [if_pos c45] at H
                                have c45b0 : (((rd_T45 l1 x10_1).f1) == a2) = true := beq_iff_eq.mpr c45
                                have c45b1 : (((rd_T45 l1 x10_1).f1) != a2) = false := bne_eq_false_iff_eq.mpr c45
                                clear c45
                                replace H := Option.bind_eq_some_iff.mp H
                                obtain ⟨⟨t415, t416, t417⟩, A460, H⟩ := H
                                replace H : (watchmanlaw18_SessionRuns.j3 kj33 a0 l1 a2 t411 ((rd_T45 l1 x10_1).f2) x10_1 t415 t416 t417) = some r := H
                                have A46 := Aside0.mk A460
                                clear A460
                                have H' := Aside0.mk H
                                clear H
                                have hnb47 := NB404_401.out
                                have hnc47 := NB401_404.out
                                have hcz48_0 : wc.cell? ⟨gb404, 0, none⟩ = some (.int .i64 ((rd_T45 l1 x10_1).f0)) := (blk_cell BK404.out 0).trans rfl
                                have hcz48_1 : wc.cell? ⟨gb404, 1, none⟩ = some (.int .i64 ((rd_T45 l1 x10_1).f1)) := (blk_cell BK404.out 1).trans rfl
                                have hcz48_2 : wc.cell? ⟨gb404, 2, none⟩ = some (.int .i64 ((rd_T45 l1 x10_1).f2)) := (blk_cell BK404.out 2).trans rfl
                                have hcz48_3 : wc.cell? ⟨gb404, 3, none⟩ = some (.int .i64 ((rd_T45 l1 x10_1).f3.f0)) := (blk_cell BK404.out 3).trans rfl
                                have hcz48_4 : wc.cell? ⟨gb404, 4, none⟩ = some (.int .i64 ((rd_T45 l1 x10_1).f3.f1)) := (blk_cell BK404.out 4).trans rfl
                                have hcz48_5 : wc.cell? ⟨gb404, 5, none⟩ = some (.slice A403_5 ((rd_T45 l1 x10_1).f3.f2).length c403_5) := (blk_cell BK404.out 5).trans rfl
                                have hfz48_0 := blk_frozen BK404.out 0
                                have hfz48_1 := blk_frozen BK404.out 1
                                have hfz48_2 := blk_frozen BK404.out 2
                                have hfz48_3 := blk_frozen BK404.out 3
                                have hfz48_4 := blk_frozen BK404.out 4
                                have hfz48_5 := blk_frozen BK404.out 5
                                go_wp2_with (first | ((with_reducible refine gate_callee (f := 17) rfl ?_); refine goesL_ (some 87) rfl rfl Try.func17 (by kernel_rfl) rfl #[.agg #[.int .i64 ((rd_T45 l1 x10_1).f3.f0), .int .i64 ((rd_T45 l1 x10_1).f3.f1), .slice A403_5 ((rd_T45 l1 x10_1).f3.f2).length c403_5]] rfl (by (try simp only [List.map_toArray, List.map_cons, List.map_nil]); first | done | rfl | (simp only [List.length_drop, List.length_take]; rfl)) ?_; (with_reducible refine (watchmanref18_OwnAnswer.calls ((rd_T45 l1 x10_1).f3.f0) ((rd_T45 l1 x10_1).f3.f1) _ _ ((rd_T45 l1 x10_1).f3.f2) t415 t416 t417 _ ?side1 ?side2 A46.out).mono ?_); (case side1 => repeat (first | exact (Kd.C_below HR403_5.out HB.out) | (with_reducible refine Kd.C_alloc ?_ _) | (with_reducible refine Kd.C_drewN ?_ _) | (with_reducible refine Kd.C_drew ?_))); (case side2 => exact HC403_5.out); rintro e w49 ⟨v418, rfl, ho0, hb⟩; refine ⟨_, rfl, ?_⟩; have n0_ := Aside0.mk (Kd.N_elder' (by (with_reducible repeat (first | apply Kd.N_alloc | apply Kd.N_drewN | apply Kd.N_drew)); exact HO_7.out) (Kd.R_base ho0) hb); have n1_ := Aside0.mk (Kd.R_elder' (by (with_reducible repeat (first | apply Kd.R_alloc | apply Kd.R_drewN | apply Kd.R_drew)); exact HO_402002.out) (Kd.R_base ho0) hb); have n2_ := Aside0.mk (Kd.R_lower (Kd.R_new' ho0 (Kd.R_lt (by (with_reducible repeat (first | apply Kd.R_alloc | apply Kd.R_drewN | apply Kd.R_drew)); exact HO_402002.out))) (below_size (by repeat (first | (with_reducible first | exact HB.out | apply below_alloc | apply pw_below_drewN | apply below_drew1 | refine below_set ?_ GE401.out | refine below_set ?_ GE404.out) | exact HB.out)))); have n3_ := Aside0.mk (blk_below (g := gb401) (o := .cells #[.int .i64 x402000_1, .int .i64 x402001_1, u402002] 26 (0, 0)) (by (with_reducible repeat (first | refine blk_drewN ?_ _ | refine blk_drew ?_ | refine blk_alloc ?_ _)); exact BK401.out) hb); have n4_ := Aside0.mk (blk_below (g := gb404) (o := .cells #[.int .i64 ((rd_T45 l1 x10_1).f0), .int .i64 ((rd_T45 l1 x10_1).f1), .int .i64 ((rd_T45 l1 x10_1).f2), .int .i64 ((rd_T45 l1 x10_1).f3.f0), .int .i64 ((rd_T45 l1 x10_1).f3.f1), .slice A403_5 ((rd_T45 l1 x10_1).f3.f2).length c403_5] 45 (0, 0)) (by (with_reducible repeat (first | refine blk_drewN ?_ _ | refine blk_drew ?_ | refine blk_alloc ?_ _)); exact BK404.out) hb); have n5_ := Aside0.mk (below_step (by repeat (first | (with_reducible first | exact HB.out | apply below_alloc | apply pw_below_drewN | apply below_drew1 | refine below_set ?_ GE401.out | refine below_set ?_ GE404.out) | exact HB.out)) hb); clear HO_7; clear HO_402002; clear BK401; clear BK404; clear HB; have HO_7 := n0_; have HO_402002 := n1_; have HO419 := n2_; have BK401 := n3_; have BK404 := n4_; have HB := n5_; clear n0_ n1_ n2_ n3_ n4_ n5_; (try clear hb); (try clear hb2); (try clear hk); (try clear hi); (try clear ho0); have hcz50_0 : w49.cell? ⟨gb401, 0, none⟩ = some (.int .i64 x402000_1) := (blk_cell BK401.out 0).trans rfl; have hcz50_1 : w49.cell? ⟨gb401, 1, none⟩ = some (.int .i64 x402001_1) := (blk_cell BK401.out 1).trans rfl; have hcz50_2 : w49.cell? ⟨gb401, 2, none⟩ = some (u402002) := (blk_cell BK401.out 2).trans rfl; have hfz50_0 := blk_frozen BK401.out 0; have hfz50_1 := blk_frozen BK401.out 1; have hfz50_2 := blk_frozen BK401.out 2; obtain ⟨Ao51, co51, eo51⟩ := Kd.R_slice HO419.out; subst eo51))
                                go_meet
                                case rel => exact ⟨_, (t411), (((rd_T45 l1 x10_1).f2)), (t415), (t416), (t417), (.slice Ao51 t417.length co51), (by first | rfl | (simp; done) | (simp [*]; done)), H', ⟨by have := HK1.out; have := HJ14.out; have := HJ33.out; first | omega | exact Nat.le_refl _⟩, ⟨by (with_reducible repeat (first | apply Kd.N_alloc | apply Kd.N_drewN | apply Kd.N_drew)); exact Kd.N_mono (Kd.N_far (p := ⟨gb401, 2, none⟩) (Kd.N_far (p := ⟨gb401, 1, none⟩) (Kd.N_far (p := ⟨gb401, 0, none⟩) (Kd.N_mono HO_7.out (fun k_ hk => (⟨hk, hk.1.2.1⟩ : _ ∧ k_ ≠ gb401))) (fun _ hk => hk.2) (.int .i64 t415)) (fun _ hk => hk.2) (.int .i64 t416)) (fun _ hk => hk.2) (.slice Ao51 t417.length co51)) (fun _ hk => ⟨hk.1.2, ⟨hk.1.1.2.1, hk.1.1.2.2⟩⟩)⟩, ⟨by (with_reducible repeat (first | apply Kd.R_alloc | apply Kd.R_drewN | apply Kd.R_drew)); exact Kd.R_mono (Kd.R_far (p := ⟨gb401, 2, none⟩) (Kd.R_far (p := ⟨gb401, 1, none⟩) (Kd.R_far (p := ⟨gb401, 0, none⟩) (Kd.R_types HO419.out BK401.out (by decide)) (fun _ hk => hk.2) (.int .i64 t415)) (fun _ hk => hk.2) (.int .i64 t416)) (fun _ hk => hk.2) (.slice Ao51 t417.length co51)) (fun _ hk => trivial)⟩, ⟨by (with_reducible repeat (first | refine blk_drewN ?_ _ | refine blk_drew ?_ | refine blk_alloc ?_ _)); refine blk_put (cs := #[.int .i64 t415, .int .i64 t416, u402002]) ?_ 2 _ rfl; (with_reducible repeat (first | refine blk_drewN ?_ _ | refine blk_drew ?_ | refine blk_alloc ?_ _)); refine blk_put (cs := #[.int .i64 t415, .int .i64 x402001_1, u402002]) ?_ 1 _ rfl; (with_reducible repeat (first | refine blk_drewN ?_ _ | refine blk_drew ?_ | refine blk_alloc ?_ _)); refine blk_put (cs := #[.int .i64 x402000_1, .int .i64 x402001_1, u402002]) ?_ 0 _ rfl; (with_reducible repeat (first | refine blk_drewN ?_ _ | refine blk_drew ?_ | refine blk_alloc ?_ _)); exact BK401.out⟩, ⟨by (with_reducible repeat (first | refine blk_drewN ?_ _ | refine blk_drew ?_ | refine blk_alloc ?_ _)); refine blk_far ?_ NB404_401.out _; (with_reducible repeat (first | refine blk_drewN ?_ _ | refine blk_drew ?_ | refine blk_alloc ?_ _)); refine blk_far ?_ NB404_401.out _; (with_reducible repeat (first | refine blk_drewN ?_ _ | refine blk_drew ?_ | refine blk_alloc ?_ _)); refine blk_far ?_ NB404_401.out _; (with_reducible repeat (first | refine blk_drewN ?_ _ | refine blk_drew ?_ | refine blk_alloc ?_ _)); exact BK404.out⟩, ⟨by repeat (first | (with_reducible first | exact HB.out | apply below_alloc | apply pw_below_drewN | apply below_drew1 | refine below_set ?_ GE401.out | refine below_set ?_ GE404.out) | exact HB.out)⟩⟩
                              · rw [if_neg c45] at H
                                have c45b0 : (((rd_T45 l1 x10_1).f1) == a2) = false := beq_eq_false_iff_ne.mpr c45
                                have c45b1 : (((rd_T45 l1 x10_1).f1) != a2) = true := bne_iff_ne.mpr c45
                                have H' := Aside0.mk H
                                clear H
                                have hnb52 := NB404_401.out
                                have hnc52 := NB401_404.out
                                have hcz53_0 : wc.cell? ⟨gb404, 0, none⟩ = some (.int .i64 ((rd_T45 l1 x10_1).f0)) := (blk_cell BK404.out 0).trans rfl
                                have hcz53_1 : wc.cell? ⟨gb404, 1, none⟩ = some (.int .i64 ((rd_T45 l1 x10_1).f1)) := (blk_cell BK404.out 1).trans rfl
                                have hcz53_2 : wc.cell? ⟨gb404, 2, none⟩ = some (.int .i64 ((rd_T45 l1 x10_1).f2)) := (blk_cell BK404.out 2).trans rfl
                                have hcz53_3 : wc.cell? ⟨gb404, 3, none⟩ = some (.int .i64 ((rd_T45 l1 x10_1).f3.f0)) := (blk_cell BK404.out 3).trans rfl
                                have hcz53_4 : wc.cell? ⟨gb404, 4, none⟩ = some (.int .i64 ((rd_T45 l1 x10_1).f3.f1)) := (blk_cell BK404.out 4).trans rfl
                                have hcz53_5 : wc.cell? ⟨gb404, 5, none⟩ = some (.slice A403_5 ((rd_T45 l1 x10_1).f3.f2).length c403_5) := (blk_cell BK404.out 5).trans rfl
                                have hfz53_0 := blk_frozen BK404.out 0
                                have hfz53_1 := blk_frozen BK404.out 1
                                have hfz53_2 := blk_frozen BK404.out 2
                                have hfz53_3 := blk_frozen BK404.out 3
                                have hfz53_4 := blk_frozen BK404.out 4
                                have hfz53_5 := blk_frozen BK404.out 5
                                go_wp2
                                go_meet
                                case rel => exact ⟨_, (t411), (x8_1), (x402000_1), (x402001_1), (x402002_1), (u402002), (by first | rfl | (simp; done) | (simp [*]; done)), H', ⟨by have := HK1.out; have := HJ14.out; have := HJ33.out; first | omega | exact Nat.le_refl _⟩, ⟨by (with_reducible repeat (first | apply Kd.N_alloc | apply Kd.N_drewN | apply Kd.N_drew)); exact HO_7.out⟩, ⟨by (with_reducible repeat (first | apply Kd.R_alloc | apply Kd.R_drewN | apply Kd.R_drew)); exact HO_402002.out⟩, ⟨by (with_reducible repeat (first | refine blk_drewN ?_ _ | refine blk_drew ?_ | refine blk_alloc ?_ _)); exact BK401.out⟩, ⟨by (with_reducible repeat (first | refine blk_drewN ?_ _ | refine blk_drew ?_ | refine blk_alloc ?_ _)); exact BK404.out⟩, ⟨by repeat (first | (with_reducible first | exact HB.out | apply below_alloc | apply pw_below_drewN | apply below_drew1 | refine below_set ?_ GE401.out | refine below_set ?_ GE404.out) | exact HB.out)⟩⟩
                      · rw [if_neg c33] at H
                        have c33b0 : (t414 == 0) = false := beq_eq_false_iff_ne.mpr c33
                        have c33b1 : (t414 != 0) = true := bne_iff_ne.mpr c33
                        have H' := Aside0.mk H
                        clear H
                        have hnb54 := NB404_401.out
                        have hnc54 := NB401_404.out
                        have hcz55_0 : wc.cell? ⟨gb404, 0, none⟩ = some (.int .i64 ((rd_T45 l1 x10_1).f0)) := (blk_cell BK404.out 0).trans rfl
                        have hcz55_1 : wc.cell? ⟨gb404, 1, none⟩ = some (.int .i64 ((rd_T45 l1 x10_1).f1)) := (blk_cell BK404.out 1).trans rfl
                        have hcz55_2 : wc.cell? ⟨gb404, 2, none⟩ = some (.int .i64 ((rd_T45 l1 x10_1).f2)) := (blk_cell BK404.out 2).trans rfl
                        have hcz55_3 : wc.cell? ⟨gb404, 3, none⟩ = some (.int .i64 ((rd_T45 l1 x10_1).f3.f0)) := (blk_cell BK404.out 3).trans rfl
                        have hcz55_4 : wc.cell? ⟨gb404, 4, none⟩ = some (.int .i64 ((rd_T45 l1 x10_1).f3.f1)) := (blk_cell BK404.out 4).trans rfl
                        have hcz55_5 : wc.cell? ⟨gb404, 5, none⟩ = some (.slice A403_5 ((rd_T45 l1 x10_1).f3.f2).length c403_5) := (blk_cell BK404.out 5).trans rfl
                        have hfz55_0 := blk_frozen BK404.out 0
                        have hfz55_1 := blk_frozen BK404.out 1
                        have hfz55_2 := blk_frozen BK404.out 2
                        have hfz55_3 := blk_frozen BK404.out 3
                        have hfz55_4 := blk_frozen BK404.out 4
                        have hfz55_5 := blk_frozen BK404.out 5
                        obtain ⟨Ao56, co56, eo56⟩ := Kd.N_slice HO_7.out
                        subst eo56
                        go_wp2_with (first | ((with_reducible refine gate_callee (f := 10) rfl ?_); refine goesL_ (some 63) rfl rfl Try.func10 (by kernel_rfl) rfl #[.slice Ao56 x7_14.length co56, .int .i64 ((rd_T45 l1 x10_1).f1), .int .i64 ((rd_T45 l1 x10_1).f2), .int .i64 (wrap64 (x10_1 + 1)), .agg #[.int .i64 ((rd_T45 l1 x10_1).f3.f0), .int .i64 ((rd_T45 l1 x10_1).f3.f1), .slice A403_5 ((rd_T45 l1 x10_1).f3.f2).length c403_5]] rfl (by (try simp only [List.map_toArray, List.map_cons, List.map_nil]); first | done | rfl | (simp only [List.length_drop, List.length_take]; rfl)) ?_; (with_reducible refine (session_Put.calls kj14 _ _ x7_14 ((rd_T45 l1 x10_1).f1) ((rd_T45 l1 x10_1).f2) (wrap64 (x10_1 + 1)) ((rd_T45 l1 x10_1).f3.f0) ((rd_T45 l1 x10_1).f3.f1) _ _ ((rd_T45 l1 x10_1).f3.f2) t411 t414 _ ?side1 ?side2 ?side3 ?side4 A32.out).mono ?_); (case side1 => repeat (first | exact (Kd.N_reads' HO_7.out).2.2 | (with_reducible refine Kd.C_alloc ?_ _) | (with_reducible refine Kd.C_drewN ?_ _) | (with_reducible refine Kd.C_drew ?_))); (case side2 => exact (Kd.N_reads' HO_7.out).2.1); (case side3 => repeat (first | exact (Kd.C_below HR403_5.out HB.out) | (with_reducible refine Kd.C_alloc ?_ _) | (with_reducible refine Kd.C_drewN ?_ _) | (with_reducible refine Kd.C_drew ?_))); (case side4 => exact HC403_5.out); rintro e w57 ⟨v412, rfl, ho0, hb⟩; refine ⟨_, rfl, ?_⟩; have n0_ := Aside0.mk (Kd.N_elder' (by (with_reducible repeat (first | apply Kd.N_alloc | apply Kd.N_drewN | apply Kd.N_drew)); exact HO_7.out) (Kd.N_base ho0) hb); have n1_ := Aside0.mk (Kd.R_below (by (with_reducible repeat (first | apply Kd.R_alloc | apply Kd.R_drewN | apply Kd.R_drew)); exact HO_402002.out) hb); have n2_ := Aside0.mk (Kd.N_lower (Kd.N_mono (ok' := fun k_ => some k_ ≠ (.slice Ao56 x7_14.length co56 : Value).ownBlock ∧ some k_ ≠ (u402002 : Value).ownBlock ∧ k_ ≠ gb401 ∧ k_ ≠ gb404) ho0 (fun k_ hk_ => ⟨(Kd.fresh' (Kd.N_lt (by (with_reducible repeat (first | apply Kd.N_alloc | apply Kd.N_drewN | apply Kd.N_drew)); exact HO_7.out)) k_ hk_), (Kd.fresh' (Kd.R_lt (by (with_reducible repeat (first | apply Kd.R_alloc | apply Kd.R_drewN | apply Kd.R_drew)); exact HO_402002.out)) k_ hk_), (Kd.freshB (g := gb401) (o := .cells #[.int .i64 x402000_1, .int .i64 x402001_1, u402002] 26 (0, 0)) (by (with_reducible repeat (first | refine blk_drewN ?_ _ | refine blk_drew ?_ | refine blk_alloc ?_ _)); exact BK401.out) k_ hk_), (Kd.freshB (g := gb404) (o := .cells #[.int .i64 ((rd_T45 l1 x10_1).f0), .int .i64 ((rd_T45 l1 x10_1).f1), .int .i64 ((rd_T45 l1 x10_1).f2), .int .i64 ((rd_T45 l1 x10_1).f3.f0), .int .i64 ((rd_T45 l1 x10_1).f3.f1), .slice A403_5 ((rd_T45 l1 x10_1).f3.f2).length c403_5] 45 (0, 0)) (by (with_reducible repeat (first | refine blk_drewN ?_ _ | refine blk_drew ?_ | refine blk_alloc ?_ _)); exact BK404.out) k_ hk_)⟩)) (below_size (by repeat (first | (with_reducible first | exact HB.out | apply below_alloc | apply pw_below_drewN | apply below_drew1 | refine below_set ?_ GE401.out | refine below_set ?_ GE404.out) | exact HB.out)))); have n3_ := Aside0.mk (blk_below (g := gb401) (o := .cells #[.int .i64 x402000_1, .int .i64 x402001_1, u402002] 26 (0, 0)) (by (with_reducible repeat (first | refine blk_drewN ?_ _ | refine blk_drew ?_ | refine blk_alloc ?_ _)); exact BK401.out) hb); have n4_ := Aside0.mk (blk_below (g := gb404) (o := .cells #[.int .i64 ((rd_T45 l1 x10_1).f0), .int .i64 ((rd_T45 l1 x10_1).f1), .int .i64 ((rd_T45 l1 x10_1).f2), .int .i64 ((rd_T45 l1 x10_1).f3.f0), .int .i64 ((rd_T45 l1 x10_1).f3.f1), .slice A403_5 ((rd_T45 l1 x10_1).f3.f2).length c403_5] 45 (0, 0)) (by (with_reducible repeat (first | refine blk_drewN ?_ _ | refine blk_drew ?_ | refine blk_alloc ?_ _)); exact BK404.out) hb); have n5_ := Aside0.mk (below_step (by repeat (first | (with_reducible first | exact HB.out | apply below_alloc | apply pw_below_drewN | apply below_drew1 | refine below_set ?_ GE401.out | refine below_set ?_ GE404.out) | exact HB.out)) hb); clear HO_7; clear HO_402002; clear BK401; clear BK404; clear HB; have HO_7 := n0_; have HO_402002 := n1_; have HO413 := n2_; have BK401 := n3_; have BK404 := n4_; have HB := n5_; clear n0_ n1_ n2_ n3_ n4_ n5_; (try clear hb); (try clear hb2); (try clear hk); (try clear hi); (try clear ho0)))
                        go_meet
                        case rel => exact ⟨_, (x7_14), (x8_1), (x402000_1), (x402001_1), (x402002_1), (u402002), (by first | rfl | (simp; done) | (simp [*]; done)), H', ⟨by have := HK1.out; have := HJ14.out; first | omega | exact Nat.le_refl _⟩, ⟨by (with_reducible repeat (first | apply Kd.N_alloc | apply Kd.N_drewN | apply Kd.N_drew)); exact Kd.N_mono HO_7.out (fun _ hk => ⟨hk.1.1, ⟨hk.1.2.1, hk.1.2.2⟩⟩)⟩, ⟨by (with_reducible repeat (first | apply Kd.R_alloc | apply Kd.R_drewN | apply Kd.R_drew)); exact HO_402002.out⟩, ⟨by (with_reducible repeat (first | refine blk_drewN ?_ _ | refine blk_drew ?_ | refine blk_alloc ?_ _)); exact BK401.out⟩, ⟨by (with_reducible repeat (first | refine blk_drewN ?_ _ | refine blk_drew ?_ | refine blk_alloc ?_ _)); exact BK404.out⟩, ⟨by repeat (first | (with_reducible first | exact HB.out | apply below_alloc | apply pw_below_drewN | apply below_drew1 | refine below_set ?_ GE401.out | refine below_set ?_ GE404.out) | exact HB.out)⟩⟩
                    · rw [if_neg c31] at H
                      have c31b0 : (((rd_T45 l1 x10_1).f0) == 2) = false := beq_eq_false_iff_ne.mpr c31
                      have c31b1 : (((rd_T45 l1 x10_1).f0) != 2) = true := bne_iff_ne.mpr c31
                      (first | rw [c31b0] | (simp only [i64_w, i32_w]; rw [c31b0]) | skip)
                      have H' := Aside0.mk H
                      clear H
                      go_wp2
                      go_meet
                      case rel => exact ⟨_, (x7_14), (x8_1), (x402000_1), (x402001_1), (x402002_1), (u402002), (by first | rfl | (simp; done) | (simp [*]; done)), H', ⟨by have := HK1.out; have := HJ14.out; first | omega | exact Nat.le_refl _⟩, ⟨by (with_reducible repeat (first | apply Kd.N_alloc | apply Kd.N_drewN | apply Kd.N_drew)); exact HO_7.out⟩, ⟨by (with_reducible repeat (first | apply Kd.R_alloc | apply Kd.R_drewN | apply Kd.R_drew)); exact HO_402002.out⟩, ⟨by (with_reducible repeat (first | refine blk_drewN ?_ _ | refine blk_drew ?_ | refine blk_alloc ?_ _)); exact BK401.out⟩, ⟨by (with_reducible repeat (first | refine blk_drewN ?_ _ | refine blk_drew ?_ | refine blk_alloc ?_ _)); exact BK404.out⟩, ⟨by repeat (first | (with_reducible first | exact HB.out | apply below_alloc | apply pw_below_drewN | apply below_drew1 | refine below_set ?_ GE401.out | refine below_set ?_ GE404.out) | exact HB.out)⟩⟩
                  case rest =>
                    clear HC28
                    try clear c1
                    try clear c2
                    try clear p2
                    try clear c3
                    try clear c4
                    try clear c4b0
                    try clear c4b1
                    try clear p4
                    try clear q4
                    try clear hx4
                    try clear c5
                    try clear p6
                    try clear c7
                    try clear c7b0
                    try clear c8
                    try clear c8b0
                    try clear c9
                    try clear c10
                    try clear c12
                    try clear c15
                    try clear c17
                    try clear c21
                    try clear c21b0
                    try clear c21b1
                    try clear c23
                    try clear c23b0
                    try clear c23b1
                    try clear c29
                    try clear c31
                    try clear c31b0
                    try clear c31b1
                    try clear c33
                    try clear c33b0
                    try clear c33b1
                    try clear c35
                    try clear c39
                    try clear c39b0
                    try clear c39b1
                    try clear c40
                    try clear p40
                    try clear q40
                    try clear hx40
                    try clear c42
                    try clear c44
                    try clear c45
                    try clear c45b0
                    try clear c45b1
                    try clear c47
                    try clear c52
                    try clear c54
                    try clear hcz13_0
                    try clear hcz13_1
                    try clear hcz13_2
                    try clear hcz13_3
                    try clear hcz13_4
                    try clear hcz13_5
                    try clear hcz18_0
                    try clear hcz18_1
                    try clear hcz18_2
                    try clear hcz18_3
                    try clear hcz18_4
                    try clear hcz18_5
                    try clear hcz20_0
                    try clear hcz20_1
                    try clear hcz20_2
                    try clear hcz20_3
                    try clear hcz20_4
                    try clear hcz20_5
                    try clear hcz30_0
                    try clear hcz30_1
                    try clear hcz30_2
                    try clear hcz30_3
                    try clear hcz30_4
                    try clear hcz30_5
                    try clear hcz36_0
                    try clear hcz36_1
                    try clear hcz36_2
                    try clear hcz36_3
                    try clear hcz36_4
                    try clear hcz36_5
                    try clear hcz41_0
                    try clear hcz41_1
                    try clear hcz41_2
                    try clear hcz41_3
                    try clear hcz41_4
                    try clear hcz41_5
                    try clear hcz43_0
                    try clear hcz43_1
                    try clear hcz43_2
                    try clear hcz43_3
                    try clear hcz43_4
                    try clear hcz43_5
                    try clear hcz48_0
                    try clear hcz48_1
                    try clear hcz48_2
                    try clear hcz48_3
                    try clear hcz48_4
                    try clear hcz48_5
                    try clear hcz50_0
                    try clear hcz50_1
                    try clear hcz50_2
                    try clear hcz53_0
                    try clear hcz53_1
                    try clear hcz53_2
                    try clear hcz53_3
                    try clear hcz53_4
                    try clear hcz53_5
                    try clear hcz55_0
                    try clear hcz55_1
                    try clear hcz55_2
                    try clear hcz55_3
                    try clear hcz55_4
                    try clear hcz55_5
                    try clear hfz13_0
                    try clear hfz13_1
                    try clear hfz13_2
                    try clear hfz13_3
                    try clear hfz13_4
                    try clear hfz13_5
                    try clear hfz18_0
                    try clear hfz18_1
                    try clear hfz18_2
                    try clear hfz18_3
                    try clear hfz18_4
                    try clear hfz18_5
                    try clear hfz20_0
                    try clear hfz20_1
                    try clear hfz20_2
                    try clear hfz20_3
                    try clear hfz20_4
                    try clear hfz20_5
                    try clear hfz30_0
                    try clear hfz30_1
                    try clear hfz30_2
                    try clear hfz30_3
                    try clear hfz30_4
                    try clear hfz30_5
                    try clear hfz36_0
                    try clear hfz36_1
                    try clear hfz36_2
                    try clear hfz36_3
                    try clear hfz36_4
                    try clear hfz36_5
                    try clear hfz41_0
                    try clear hfz41_1
                    try clear hfz41_2
                    try clear hfz41_3
                    try clear hfz41_4
                    try clear hfz41_5
                    try clear hfz43_0
                    try clear hfz43_1
                    try clear hfz43_2
                    try clear hfz43_3
                    try clear hfz43_4
                    try clear hfz43_5
                    try clear hfz48_0
                    try clear hfz48_1
                    try clear hfz48_2
                    try clear hfz48_3
                    try clear hfz48_4
                    try clear hfz48_5
                    try clear hfz50_0
                    try clear hfz50_1
                    try clear hfz50_2
                    try clear hfz53_0
                    try clear hfz53_1
                    try clear hfz53_2
                    try clear hfz53_3
                    try clear hfz53_4
                    try clear hfz53_5
                    try clear hfz55_0
                    try clear hfz55_1
                    try clear hfz55_2
                    try clear hfz55_3
                    try clear hfz55_4
                    try clear hfz55_5
                    try clear hx403_0
                    try clear hx403_1
                    try clear hx403_2
                    try clear hx403_3
                    try clear hx403_4
                    try clear hx403_5
                    try clear p2
                    try clear p4
                    try clear p40
                    try clear p403
                    try clear p6
                    try clear q4
                    try clear q40
                    try clear q403
                    obtain ⟨kq, x7_27, x8_27, x402000_27, x402001_27, x402002_27, u402002, rfl, HA, HJ27, HO_7, HO_402002, BK401, BK404, HB⟩ := hcut
                    cases kq with
                    | zero => exact absurd HA.out (by simp [watchmanlaw18_SessionRuns.j3])
                    | succ kj27 =>
                      have H := HA.out
                      clear HA
                      simp only [watchmanlaw18_SessionRuns.j3] at H
                      replace H := Option.bind_eq_some_iff.mp H
                      obtain ⟨⟨t420, t421, t422, t423, t424, t425, t428⟩, A580, H⟩ := H
                      replace H : (if t428 = true then (if t421 = x8_27 then ((watchmanref18_SameAnswer.f kj27 t423 t424 t425 x402000_27 x402001_27 x402002_27).bind fun t430 => (if t430 = true then ((session_Is.f kj27 x7_27).bind fun t431 => (if t431 = true then (watchmanlaw18_SessionRuns.l0 kj27 a0 l1 a2 x7_27 x8_27 (wrap64 (x10_1 + 1)) x402000_27 x402001_27 x402002_27) else (none))) else (none))) else (none)) else ((session_Is.f kj27 x7_27).bind fun t432 => (if t432 = true then (watchmanlaw18_SessionRuns.l0 kj27 a0 l1 a2 x7_27 x8_27 (wrap64 (x10_1 + 1)) x402000_27 x402001_27 x402002_27) else (none)))) = some r := H
                      have A58 := Aside0.mk A580
                      clear A580
                      by_cases c59 : t428 = true
                      · subst c59
                        have H1 : (if t421 = x8_27 then ((watchmanref18_SameAnswer.f kj27 t423 t424 t425 x402000_27 x402001_27 x402002_27).bind fun t430 => (if t430 = true then ((session_Is.f kj27 x7_27).bind fun t431 => (if t431 = true then (watchmanlaw18_SessionRuns.l0 kj27 a0 l1 a2 x7_27 x8_27 (wrap64 (x10_1 + 1)) x402000_27 x402001_27 x402002_27) else (none))) else (none))) else (none)) = some r := by rw [if_pos rfl] at H; exact H
                        clear H
                        have H := H1
                        clear H1
                        by_cases c60 : t421 = x8_27
                        · rw [if_pos c60] at H
                          have c60b0 : (t421 == x8_27) = true := beq_iff_eq.mpr c60
                          have c60b1 : (t421 != x8_27) = false := bne_eq_false_iff_eq.mpr c60
                          clear c60
                          replace H := Option.bind_eq_some_iff.mp H
                          obtain ⟨t430, A610, H⟩ := H
                          replace H : (if t430 = true then ((session_Is.f kj27 x7_27).bind fun t431 => (if t431 = true then (watchmanlaw18_SessionRuns.l0 kj27 a0 l1 a2 x7_27 x8_27 (wrap64 (x10_1 + 1)) x402000_27 x402001_27 x402002_27) else (none))) else (none)) = some r := H
                          have A61 := Aside0.mk A610
                          clear A610
                          by_cases c62 : t430 = true
                          · subst c62
                            have H1 : ((session_Is.f kj27 x7_27).bind fun t431 => (if t431 = true then (watchmanlaw18_SessionRuns.l0 kj27 a0 l1 a2 x7_27 x8_27 (wrap64 (x10_1 + 1)) x402000_27 x402001_27 x402002_27) else (none))) = some r := by rw [if_pos rfl] at H; exact H
                            clear H
                            have H := H1
                            clear H1
                            replace H := Option.bind_eq_some_iff.mp H
                            obtain ⟨t431, A630, H⟩ := H
                            replace H : (if t431 = true then (watchmanlaw18_SessionRuns.l0 kj27 a0 l1 a2 x7_27 x8_27 (wrap64 (x10_1 + 1)) x402000_27 x402001_27 x402002_27) else (none)) = some r := H
                            have A63 := Aside0.mk A630
                            clear A630
                            by_cases c64 : t431 = true
                            · subst c64
                              have H1 : (watchmanlaw18_SessionRuns.l0 kj27 a0 l1 a2 x7_27 x8_27 (wrap64 (x10_1 + 1)) x402000_27 x402001_27 x402002_27) = some r := by rw [if_pos rfl] at H; exact H
                              clear H
                              have H := H1
                              clear H1
                              have H' := Aside0.mk H
                              clear H
                              obtain ⟨Ao65, co65, eo65⟩ := Kd.N_slice HO_7.out
                              subst eo65
                              go_wp2_with (first | ((with_reducible refine gate_callee (f := 16) rfl ?_); refine goesL_ (some 91) rfl rfl Try.func16 (by kernel_rfl) rfl #[.slice Ao65 x7_27.length co65, .int .i64 a2] rfl (by (try simp only [List.map_toArray, List.map_cons, List.map_nil]); first | done | rfl | (simp only [List.length_drop, List.length_take]; rfl)) ?_; (with_reducible refine (session_Find.calls _ _ x7_27 a2 t420 t421 t422 t423 t424 t425 true _ ?side1 ?side2 A58.out).mono ?_); (case side1 => repeat (first | exact (Kd.N_reads' HO_7.out).2.2 | (with_reducible refine Kd.C_alloc ?_ _) | (with_reducible refine Kd.C_drewN ?_ _) | (with_reducible refine Kd.C_drew ?_))); (case side2 => exact (Kd.N_reads' HO_7.out).2.1); rintro e w66 ⟨v426, rfl, ho0, hb⟩; refine ⟨_, rfl, ?_⟩; have n0_ := Aside0.mk (Kd.N_elder' (by (with_reducible repeat (first | apply Kd.N_alloc | apply Kd.N_drewN | apply Kd.N_drew)); exact HO_7.out) (Kd.R_base ho0) hb); have n1_ := Aside0.mk (Kd.R_elder' (by (with_reducible repeat (first | apply Kd.R_alloc | apply Kd.R_drewN | apply Kd.R_drew)); exact HO_402002.out) (Kd.R_base ho0) hb); have n2_ := Aside0.mk (Kd.R_lower (Kd.R_new' ho0 (Kd.R_lt (by (with_reducible repeat (first | apply Kd.R_alloc | apply Kd.R_drewN | apply Kd.R_drew)); exact HO_402002.out))) (below_size (by repeat (first | (with_reducible first | exact HB.out | apply below_alloc | apply pw_below_drewN | apply below_drew1 | refine below_set ?_ GE401.out | refine below_set ?_ GE404.out) | exact HB.out)))); have n3_ := Aside0.mk (blk_below (g := gb401) (o := .cells #[.int .i64 x402000_27, .int .i64 x402001_27, u402002] 26 (0, 0)) (by (with_reducible repeat (first | refine blk_drewN ?_ _ | refine blk_drew ?_ | refine blk_alloc ?_ _)); exact BK401.out) hb); have n4_ := Aside0.mk (blk_below (g := gb404) (o := .cells #[.int .i64 ((rd_T45 l1 x10_1).f0), .int .i64 ((rd_T45 l1 x10_1).f1), .int .i64 ((rd_T45 l1 x10_1).f2), .int .i64 ((rd_T45 l1 x10_1).f3.f0), .int .i64 ((rd_T45 l1 x10_1).f3.f1), .slice A403_5 ((rd_T45 l1 x10_1).f3.f2).length c403_5] 45 (0, 0)) (by (with_reducible repeat (first | refine blk_drewN ?_ _ | refine blk_drew ?_ | refine blk_alloc ?_ _)); exact BK404.out) hb); have n5_ := Aside0.mk (below_step (by repeat (first | (with_reducible first | exact HB.out | apply below_alloc | apply pw_below_drewN | apply below_drew1 | refine below_set ?_ GE401.out | refine below_set ?_ GE404.out) | exact HB.out)) hb); clear HO_7; clear HO_402002; clear BK401; clear BK404; clear HB; have HO_7 := n0_; have HO_402002 := n1_; have HO427 := n2_; have BK401 := n3_; have BK404 := n4_; have HB := n5_; clear n0_ n1_ n2_ n3_ n4_ n5_; (try clear hb); (try clear hb2); (try clear hk); (try clear hi); (try clear ho0)) | ((with_reducible refine gate_dst (N := 17) rfl ?_); refine box_event ?hg (N := 17) ?hd (cs := #[.int .i64 0, .int .i64 0, .int .i64 0, .int .i64 0, .int .i64 0, .slice none 0 0]) (t := 39) ?hr ?_; (case hd => rfl); (case hg => rfl); (case hr => first | (go_simp; done) | (go_simp; rfl)); intro gb429 hg w67 hbox hb; have n0_ := Aside0.mk (Kd.N_below (Kd.N_elderB (by (with_reducible repeat (first | apply Kd.N_alloc | apply Kd.N_drewN | apply Kd.N_drew)); exact HO_7.out) gb429 (Nat.le_of_eq hg.symm)) hb); have n1_ := Aside0.mk (Kd.R_below (by (with_reducible repeat (first | apply Kd.R_alloc | apply Kd.R_drewN | apply Kd.R_drew)); exact HO_402002.out) hb); have n2_ := Aside0.mk (Kd.R_below (by (with_reducible repeat (first | apply Kd.R_alloc | apply Kd.R_drewN | apply Kd.R_drew)); exact HO427.out) hb); have n3_ := Aside0.mk (blk_below (g := gb401) (o := .cells #[.int .i64 x402000_27, .int .i64 x402001_27, u402002] 26 (0, 0)) (by (with_reducible repeat (first | refine blk_drewN ?_ _ | refine blk_drew ?_ | refine blk_alloc ?_ _)); exact BK401.out) hb); have n4_ := Aside0.mk (blk_below (g := gb404) (o := .cells #[.int .i64 ((rd_T45 l1 x10_1).f0), .int .i64 ((rd_T45 l1 x10_1).f1), .int .i64 ((rd_T45 l1 x10_1).f2), .int .i64 ((rd_T45 l1 x10_1).f3.f0), .int .i64 ((rd_T45 l1 x10_1).f3.f1), .slice A403_5 ((rd_T45 l1 x10_1).f3.f2).length c403_5] 45 (0, 0)) (by (with_reducible repeat (first | refine blk_drewN ?_ _ | refine blk_drew ?_ | refine blk_alloc ?_ _)); exact BK404.out) hb); have n5_ := Aside0.mk (below_step (by repeat (first | (with_reducible first | exact HB.out | apply below_alloc | apply pw_below_drewN | apply below_drew1 | refine below_set ?_ GE401.out | refine below_set ?_ GE404.out) | exact HB.out)) hb); have n6_ := Aside0.mk (hbox); have n7_ := Aside0.mk ((by rw [hg]; exact (below_size (by repeat (first | (with_reducible first | exact HB.out | apply below_alloc | apply pw_below_drewN | apply below_drew1 | refine below_set ?_ GE401.out | refine below_set ?_ GE404.out) | exact HB.out))) : w.heap.size ≤ gb429)); have n8_ := Aside0.mk ((by rw [hg]; exact (below_size (by repeat (first | (with_reducible first | exact HB.out | apply below_alloc | apply pw_below_drewN | apply below_drew1 | refine below_set ?_ GE401.out | refine below_set ?_ GE404.out) | exact HB.out))) : w.heap.size ≤ gb429)); have n9_ := Aside0.mk ((by rw [hg]; exact Nat.ne_of_lt (blk_lt (g := gb401) (o := .cells #[.int .i64 x402000_27, .int .i64 x402001_27, u402002] 26 (0, 0)) (by (with_reducible repeat (first | refine blk_drewN ?_ _ | refine blk_drew ?_ | refine blk_alloc ?_ _)); exact BK401.out)) : gb401 ≠ gb429)); have n10_ := Aside0.mk ((by rw [hg]; exact Nat.ne_of_gt (blk_lt (g := gb401) (o := .cells #[.int .i64 x402000_27, .int .i64 x402001_27, u402002] 26 (0, 0)) (by (with_reducible repeat (first | refine blk_drewN ?_ _ | refine blk_drew ?_ | refine blk_alloc ?_ _)); exact BK401.out)) : gb429 ≠ gb401)); have n11_ := Aside0.mk ((by rw [hg]; exact Nat.ne_of_lt (blk_lt (g := gb404) (o := .cells #[.int .i64 ((rd_T45 l1 x10_1).f0), .int .i64 ((rd_T45 l1 x10_1).f1), .int .i64 ((rd_T45 l1 x10_1).f2), .int .i64 ((rd_T45 l1 x10_1).f3.f0), .int .i64 ((rd_T45 l1 x10_1).f3.f1), .slice A403_5 ((rd_T45 l1 x10_1).f3.f2).length c403_5] 45 (0, 0)) (by (with_reducible repeat (first | refine blk_drewN ?_ _ | refine blk_drew ?_ | refine blk_alloc ?_ _)); exact BK404.out)) : gb404 ≠ gb429)); have n12_ := Aside0.mk ((by rw [hg]; exact Nat.ne_of_gt (blk_lt (g := gb404) (o := .cells #[.int .i64 ((rd_T45 l1 x10_1).f0), .int .i64 ((rd_T45 l1 x10_1).f1), .int .i64 ((rd_T45 l1 x10_1).f2), .int .i64 ((rd_T45 l1 x10_1).f3.f0), .int .i64 ((rd_T45 l1 x10_1).f3.f1), .slice A403_5 ((rd_T45 l1 x10_1).f3.f2).length c403_5] 45 (0, 0)) (by (with_reducible repeat (first | refine blk_drewN ?_ _ | refine blk_drew ?_ | refine blk_alloc ?_ _)); exact BK404.out)) : gb429 ≠ gb404)); clear HO_7; clear HO_402002; clear HO427; clear BK401; clear BK404; clear HB; have HO_7 := n0_; have HO_402002 := n1_; have HO427 := n2_; have BK401 := n3_; have BK404 := n4_; have HB := n5_; have BK429 := n6_; have GW429 := n7_; have GE429 := n8_; have NB401_429 := n9_; have NB429_401 := n10_; have NB404_429 := n11_; have NB429_404 := n12_; clear n0_ n1_ n2_ n3_ n4_ n5_ n6_ n7_ n8_ n9_ n10_ n11_ n12_; clear hb hbox hg; have hnb68 := NB429_401.out; have hnc68 := NB401_429.out; have hnb69 := NB429_404.out; have hnc69 := NB404_429.out; have hcz70_0 : w67.cell? ⟨gb429, 0, none⟩ = some (.int .i64 0) := (blk_cell BK429.out 0).trans rfl; have hcz70_1 : w67.cell? ⟨gb429, 1, none⟩ = some (.int .i64 0) := (blk_cell BK429.out 1).trans rfl; have hcz70_2 : w67.cell? ⟨gb429, 2, none⟩ = some (.int .i64 0) := (blk_cell BK429.out 2).trans rfl; have hcz70_3 : w67.cell? ⟨gb429, 3, none⟩ = some (.int .i64 0) := (blk_cell BK429.out 3).trans rfl; have hcz70_4 : w67.cell? ⟨gb429, 4, none⟩ = some (.int .i64 0) := (blk_cell BK429.out 4).trans rfl; have hcz70_5 : w67.cell? ⟨gb429, 5, none⟩ = some (.slice none 0 0) := (blk_cell BK429.out 5).trans rfl; have hfz70_0 := blk_frozen BK429.out 0; have hfz70_1 := blk_frozen BK429.out 1; have hfz70_2 := blk_frozen BK429.out 2; have hfz70_3 := blk_frozen BK429.out 3; have hfz70_4 := blk_frozen BK429.out 4; have hfz70_5 := blk_frozen BK429.out 5; obtain ⟨Ao71, co71, eo71⟩ := Kd.R_slice HO427.out; subst eo71; have hnb72 := NB401_404.out; have hnc72 := NB404_401.out; have hcz73_0 : w67.cell? ⟨gb401, 0, none⟩ = some (.int .i64 x402000_27) := (blk_cell BK401.out 0).trans rfl; have hcz73_1 : w67.cell? ⟨gb401, 1, none⟩ = some (.int .i64 x402001_27) := (blk_cell BK401.out 1).trans rfl; have hcz73_2 : w67.cell? ⟨gb401, 2, none⟩ = some (u402002) := (blk_cell BK401.out 2).trans rfl; have hfz73_0 := blk_frozen BK401.out 0; have hfz73_1 := blk_frozen BK401.out 1; have hfz73_2 := blk_frozen BK401.out 2; obtain ⟨Ao74, co74, eo74⟩ := Kd.R_slice HO_402002.out; subst eo74) | (go_at_call 13; (with_reducible refine (watchmanref18_SameAnswer.calls kj27 t423 t424 _ _ t425 x402000_27 x402001_27 _ _ x402002_27 true _ ?side1 ?side2 ?side3 ?side4 A61.out).mono ?_); (case side1 => refine (Kd.R_reads' (e := 9) (base := w.heap.size) (ok := fun k_ => (True ∧ some k_ ≠ (.slice Ao74 x402002_27.length co74 : Value).ownBlock)) (n := t425.length) (c := co71) ?_).2.2; exact (by (with_reducible repeat (first | apply Kd.R_alloc | apply Kd.R_drewN | apply Kd.R_drew)); exact (Kd.R_mono (Kd.R_far (p := ⟨gb429, 5, none⟩) (Kd.R_far (p := ⟨gb429, 4, none⟩) (Kd.R_far (p := ⟨gb429, 3, none⟩) (Kd.R_far (p := ⟨gb429, 2, none⟩) (Kd.R_far (p := ⟨gb429, 1, none⟩) (Kd.R_far (p := ⟨gb429, 0, none⟩) (Kd.R_types HO427.out BK429.out (by decide)) (fun _ hk => hk.2) (.int .i64 t420)) (fun _ hk => hk.2) (.int .i64 t421)) (fun _ hk => hk.2) (.int .i64 t422)) (fun _ hk => hk.2) (.int .i64 t423)) (fun _ hk => hk.2) (.int .i64 t424)) (fun _ hk => hk.2) (.slice Ao71 t425.length co71)) (fun _ h_ => h_.1)))); (case side2 => exact (Kd.R_reads' HO427.out).2.1); (case side3 => refine (Kd.R_reads' (e := 9) (base := w.heap.size) (ok := fun k_ => (True ∧ some k_ ≠ (.slice Ao71 t425.length co71 : Value).ownBlock)) (n := x402002_27.length) (c := co74) ?_).2.2; exact (by (with_reducible repeat (first | apply Kd.R_alloc | apply Kd.R_drewN | apply Kd.R_drew)); exact (Kd.R_mono (Kd.R_far (p := ⟨gb429, 5, none⟩) (Kd.R_far (p := ⟨gb429, 4, none⟩) (Kd.R_far (p := ⟨gb429, 3, none⟩) (Kd.R_far (p := ⟨gb429, 2, none⟩) (Kd.R_far (p := ⟨gb429, 1, none⟩) (Kd.R_far (p := ⟨gb429, 0, none⟩) (Kd.R_types HO_402002.out BK429.out (by decide)) (fun _ hk => hk.2) (.int .i64 t420)) (fun _ hk => hk.2) (.int .i64 t421)) (fun _ hk => hk.2) (.int .i64 t422)) (fun _ hk => hk.2) (.int .i64 t423)) (fun _ hk => hk.2) (.int .i64 t424)) (fun _ hk => hk.2) (.slice Ao71 t425.length co71)) (fun _ h_ => h_.1)))); (case side4 => exact (Kd.R_reads' HO_402002.out).2.1); rintro e w75 ⟨rfl, hb⟩; have n0_ := Aside0.mk (Kd.N_below (by (with_reducible repeat (first | apply Kd.N_alloc | apply Kd.N_drewN | apply Kd.N_drew)); exact (Kd.N_mono (Kd.N_far (p := ⟨gb429, 5, none⟩) (Kd.N_far (p := ⟨gb429, 4, none⟩) (Kd.N_far (p := ⟨gb429, 3, none⟩) (Kd.N_far (p := ⟨gb429, 2, none⟩) (Kd.N_far (p := ⟨gb429, 1, none⟩) (Kd.N_far (p := ⟨gb429, 0, none⟩) (Kd.N_mono HO_7.out (fun k_ hk => (⟨hk, hk.2⟩ : _ ∧ k_ ≠ gb429))) (fun _ hk => hk.2) (.int .i64 t420)) (fun _ hk => hk.2) (.int .i64 t421)) (fun _ hk => hk.2) (.int .i64 t422)) (fun _ hk => hk.2) (.int .i64 t423)) (fun _ hk => hk.2) (.int .i64 t424)) (fun _ hk => hk.2) (.slice Ao71 t425.length co71)) (fun _ h_ => h_.1))) hb); have n1_ := Aside0.mk (Kd.R_below (by (with_reducible repeat (first | apply Kd.R_alloc | apply Kd.R_drewN | apply Kd.R_drew)); exact (Kd.R_mono (Kd.R_far (p := ⟨gb429, 5, none⟩) (Kd.R_far (p := ⟨gb429, 4, none⟩) (Kd.R_far (p := ⟨gb429, 3, none⟩) (Kd.R_far (p := ⟨gb429, 2, none⟩) (Kd.R_far (p := ⟨gb429, 1, none⟩) (Kd.R_far (p := ⟨gb429, 0, none⟩) (Kd.R_types HO_402002.out BK429.out (by decide)) (fun _ hk => hk.2) (.int .i64 t420)) (fun _ hk => hk.2) (.int .i64 t421)) (fun _ hk => hk.2) (.int .i64 t422)) (fun _ hk => hk.2) (.int .i64 t423)) (fun _ hk => hk.2) (.int .i64 t424)) (fun _ hk => hk.2) (.slice Ao71 t425.length co71)) (fun _ h_ => h_.1))) hb); have n2_ := Aside0.mk (Kd.R_below (by (with_reducible repeat (first | apply Kd.R_alloc | apply Kd.R_drewN | apply Kd.R_drew)); exact (Kd.R_mono (Kd.R_far (p := ⟨gb429, 5, none⟩) (Kd.R_far (p := ⟨gb429, 4, none⟩) (Kd.R_far (p := ⟨gb429, 3, none⟩) (Kd.R_far (p := ⟨gb429, 2, none⟩) (Kd.R_far (p := ⟨gb429, 1, none⟩) (Kd.R_far (p := ⟨gb429, 0, none⟩) (Kd.R_types HO427.out BK429.out (by decide)) (fun _ hk => hk.2) (.int .i64 t420)) (fun _ hk => hk.2) (.int .i64 t421)) (fun _ hk => hk.2) (.int .i64 t422)) (fun _ hk => hk.2) (.int .i64 t423)) (fun _ hk => hk.2) (.int .i64 t424)) (fun _ hk => hk.2) (.slice Ao71 t425.length co71)) (fun _ h_ => h_.1))) hb); have n3_ := Aside0.mk (blk_below (g := gb401) (o := .cells #[.int .i64 x402000_27, .int .i64 x402001_27, .slice Ao74 x402002_27.length co74] 26 (0, 0)) (by (with_reducible repeat (first | refine blk_drewN ?_ _ | refine blk_drew ?_ | refine blk_alloc ?_ _)); refine blk_far ?_ NB401_429.out _; (with_reducible repeat (first | refine blk_drewN ?_ _ | refine blk_drew ?_ | refine blk_alloc ?_ _)); refine blk_far ?_ NB401_429.out _; (with_reducible repeat (first | refine blk_drewN ?_ _ | refine blk_drew ?_ | refine blk_alloc ?_ _)); refine blk_far ?_ NB401_429.out _; (with_reducible repeat (first | refine blk_drewN ?_ _ | refine blk_drew ?_ | refine blk_alloc ?_ _)); refine blk_far ?_ NB401_429.out _; (with_reducible repeat (first | refine blk_drewN ?_ _ | refine blk_drew ?_ | refine blk_alloc ?_ _)); refine blk_far ?_ NB401_429.out _; (with_reducible repeat (first | refine blk_drewN ?_ _ | refine blk_drew ?_ | refine blk_alloc ?_ _)); refine blk_far ?_ NB401_429.out _; (with_reducible repeat (first | refine blk_drewN ?_ _ | refine blk_drew ?_ | refine blk_alloc ?_ _)); exact BK401.out) hb); have n4_ := Aside0.mk (blk_below (g := gb404) (o := .cells #[.int .i64 ((rd_T45 l1 x10_1).f0), .int .i64 ((rd_T45 l1 x10_1).f1), .int .i64 ((rd_T45 l1 x10_1).f2), .int .i64 ((rd_T45 l1 x10_1).f3.f0), .int .i64 ((rd_T45 l1 x10_1).f3.f1), .slice A403_5 ((rd_T45 l1 x10_1).f3.f2).length c403_5] 45 (0, 0)) (by (with_reducible repeat (first | refine blk_drewN ?_ _ | refine blk_drew ?_ | refine blk_alloc ?_ _)); refine blk_far ?_ NB404_429.out _; (with_reducible repeat (first | refine blk_drewN ?_ _ | refine blk_drew ?_ | refine blk_alloc ?_ _)); refine blk_far ?_ NB404_429.out _; (with_reducible repeat (first | refine blk_drewN ?_ _ | refine blk_drew ?_ | refine blk_alloc ?_ _)); refine blk_far ?_ NB404_429.out _; (with_reducible repeat (first | refine blk_drewN ?_ _ | refine blk_drew ?_ | refine blk_alloc ?_ _)); refine blk_far ?_ NB404_429.out _; (with_reducible repeat (first | refine blk_drewN ?_ _ | refine blk_drew ?_ | refine blk_alloc ?_ _)); refine blk_far ?_ NB404_429.out _; (with_reducible repeat (first | refine blk_drewN ?_ _ | refine blk_drew ?_ | refine blk_alloc ?_ _)); refine blk_far ?_ NB404_429.out _; (with_reducible repeat (first | refine blk_drewN ?_ _ | refine blk_drew ?_ | refine blk_alloc ?_ _)); exact BK404.out) hb); have n5_ := Aside0.mk (blk_below (g := gb429) (o := .cells #[.int .i64 t420, .int .i64 t421, .int .i64 t422, .int .i64 t423, .int .i64 t424, .slice Ao71 t425.length co71] 39 (0, 0)) (by (with_reducible repeat (first | refine blk_drewN ?_ _ | refine blk_drew ?_ | refine blk_alloc ?_ _)); refine blk_put (cs := #[.int .i64 t420, .int .i64 t421, .int .i64 t422, .int .i64 t423, .int .i64 t424, .slice none 0 0]) ?_ 5 _ rfl; (with_reducible repeat (first | refine blk_drewN ?_ _ | refine blk_drew ?_ | refine blk_alloc ?_ _)); refine blk_put (cs := #[.int .i64 t420, .int .i64 t421, .int .i64 t422, .int .i64 t423, .int .i64 0, .slice none 0 0]) ?_ 4 _ rfl; (with_reducible repeat (first | refine blk_drewN ?_ _ | refine blk_drew ?_ | refine blk_alloc ?_ _)); refine blk_put (cs := #[.int .i64 t420, .int .i64 t421, .int .i64 t422, .int .i64 0, .int .i64 0, .slice none 0 0]) ?_ 3 _ rfl; (with_reducible repeat (first | refine blk_drewN ?_ _ | refine blk_drew ?_ | refine blk_alloc ?_ _)); refine blk_put (cs := #[.int .i64 t420, .int .i64 t421, .int .i64 0, .int .i64 0, .int .i64 0, .slice none 0 0]) ?_ 2 _ rfl; (with_reducible repeat (first | refine blk_drewN ?_ _ | refine blk_drew ?_ | refine blk_alloc ?_ _)); refine blk_put (cs := #[.int .i64 t420, .int .i64 0, .int .i64 0, .int .i64 0, .int .i64 0, .slice none 0 0]) ?_ 1 _ rfl; (with_reducible repeat (first | refine blk_drewN ?_ _ | refine blk_drew ?_ | refine blk_alloc ?_ _)); refine blk_put (cs := #[.int .i64 0, .int .i64 0, .int .i64 0, .int .i64 0, .int .i64 0, .slice none 0 0]) ?_ 0 _ rfl; (with_reducible repeat (first | refine blk_drewN ?_ _ | refine blk_drew ?_ | refine blk_alloc ?_ _)); exact BK429.out) hb); have n6_ := Aside0.mk (below_step (by repeat (first | (with_reducible first | exact HB.out | apply below_alloc | apply pw_below_drewN | apply below_drew1 | refine below_set ?_ GE401.out | refine below_set ?_ GE404.out | refine below_set ?_ GE429.out) | exact HB.out)) hb); clear HO_7; clear HO_402002; clear HO427; clear BK401; clear BK404; clear BK429; clear HB; have HO_7 := n0_; have HO_402002 := n1_; have HO427 := n2_; have BK401 := n3_; have BK404 := n4_; have BK429 := n5_; have HB := n6_; clear n0_ n1_ n2_ n3_ n4_ n5_ n6_; (try clear hb); (try clear hb2); (try clear hk); (try clear hi)) | (go_at_call 14; (with_reducible refine (session_Is.calls kj27 _ _ x7_27 true _ ?side1 ?side2 A63.out).mono ?_); (case side1 => repeat (first | exact (Kd.N_reads' HO_7.out).2.2 | (with_reducible refine Kd.C_alloc ?_ _) | (with_reducible refine Kd.C_drewN ?_ _) | (with_reducible refine Kd.C_drew ?_))); (case side2 => exact (Kd.N_reads' HO_7.out).2.1); rintro e w76 ⟨rfl, hb⟩; have n0_ := Aside0.mk (Kd.N_below (by (with_reducible repeat (first | apply Kd.N_alloc | apply Kd.N_drewN | apply Kd.N_drew)); exact HO_7.out) hb); have n1_ := Aside0.mk (Kd.R_below (by (with_reducible repeat (first | apply Kd.R_alloc | apply Kd.R_drewN | apply Kd.R_drew)); exact HO_402002.out) hb); have n2_ := Aside0.mk (Kd.R_below (by (with_reducible repeat (first | apply Kd.R_alloc | apply Kd.R_drewN | apply Kd.R_drew)); exact HO427.out) hb); have n3_ := Aside0.mk (blk_below (g := gb401) (o := .cells #[.int .i64 x402000_27, .int .i64 x402001_27, .slice Ao74 x402002_27.length co74] 26 (0, 0)) (by (with_reducible repeat (first | refine blk_drewN ?_ _ | refine blk_drew ?_ | refine blk_alloc ?_ _)); exact BK401.out) hb); have n4_ := Aside0.mk (blk_below (g := gb404) (o := .cells #[.int .i64 ((rd_T45 l1 x10_1).f0), .int .i64 ((rd_T45 l1 x10_1).f1), .int .i64 ((rd_T45 l1 x10_1).f2), .int .i64 ((rd_T45 l1 x10_1).f3.f0), .int .i64 ((rd_T45 l1 x10_1).f3.f1), .slice A403_5 ((rd_T45 l1 x10_1).f3.f2).length c403_5] 45 (0, 0)) (by (with_reducible repeat (first | refine blk_drewN ?_ _ | refine blk_drew ?_ | refine blk_alloc ?_ _)); exact BK404.out) hb); have n5_ := Aside0.mk (blk_below (g := gb429) (o := .cells #[.int .i64 t420, .int .i64 t421, .int .i64 t422, .int .i64 t423, .int .i64 t424, .slice Ao71 t425.length co71] 39 (0, 0)) (by (with_reducible repeat (first | refine blk_drewN ?_ _ | refine blk_drew ?_ | refine blk_alloc ?_ _)); exact BK429.out) hb); have n6_ := Aside0.mk (below_step (by repeat (first | (with_reducible first | exact HB.out | apply below_alloc | apply pw_below_drewN | apply below_drew1 | refine below_set ?_ GE401.out | refine below_set ?_ GE404.out | refine below_set ?_ GE429.out) | exact HB.out)) hb); clear HO_7; clear HO_402002; clear HO427; clear BK401; clear BK404; clear BK429; clear HB; have HO_7 := n0_; have HO_402002 := n1_; have HO427 := n2_; have BK401 := n3_; have BK404 := n4_; have BK429 := n5_; have HB := n6_; clear n0_ n1_ n2_ n3_ n4_ n5_ n6_; (try clear hb); (try clear hb2); (try clear hk); (try clear hi)))
                              go_roundg kj27
                              case measure => have := HK1.out; have := HJ14.out; have := HJ27.out; omega
                              case rel => exact ⟨(x7_27), (x8_27), (wrap64 (x10_1 + 1)), (x402000_27), (x402001_27), (x402002_27), (.slice Ao74 x402002_27.length co74), (by first | rfl | (simp; done) | (simp [*]; done)), (by first | rfl | (simp; done) | (simp [*]; done)), H', ⟨by have := HK1.out; have := HJ14.out; have := HJ27.out; omega⟩, ⟨by (with_reducible repeat (first | apply Kd.N_alloc | apply Kd.N_drewN | apply Kd.N_drew)); exact Kd.N_mono HO_7.out (fun _ hk => ⟨hk.1.1.1, hk.1.1.2.1⟩)⟩, ⟨by (with_reducible repeat (first | apply Kd.R_alloc | apply Kd.R_drewN | apply Kd.R_drew)); exact Kd.R_mono HO_402002.out (fun _ hk => trivial)⟩, ⟨by (with_reducible repeat (first | refine blk_drewN ?_ _ | refine blk_drew ?_ | refine blk_alloc ?_ _)); exact BK401.out⟩, ⟨by repeat (first | (with_reducible first | exact HB.out | apply below_alloc | apply pw_below_drewN | apply below_drew1 | refine below_set ?_ GE401.out | refine below_set ?_ GE404.out | refine below_set ?_ GE429.out) | exact HB.out)⟩⟩
                            · replace c64 := Bool.eq_false_iff.mpr c64
                              subst c64
                              have H1 : (none) = some r := by rw [if_neg (show ¬ (false = true) by decide)] at H; exact H
                              clear H
                              have H := H1
                              clear H1
                              exact absurd H (by simp)
                          · replace c62 := Bool.eq_false_iff.mpr c62
                            subst c62
                            have H1 : (none) = some r := by rw [if_neg (show ¬ (false = true) by decide)] at H; exact H
                            clear H
                            have H := H1
                            clear H1
                            exact absurd H (by simp)
                        · rw [if_neg c60] at H
                          exact absurd H (by simp)
                      · replace c59 := Bool.eq_false_iff.mpr c59
                        subst c59
                        have H1 : ((session_Is.f kj27 x7_27).bind fun t432 => (if t432 = true then (watchmanlaw18_SessionRuns.l0 kj27 a0 l1 a2 x7_27 x8_27 (wrap64 (x10_1 + 1)) x402000_27 x402001_27 x402002_27) else (none))) = some r := by rw [if_neg (show ¬ (false = true) by decide)] at H; exact H
                        clear H
                        have H := H1
                        clear H1
                        replace H := Option.bind_eq_some_iff.mp H
                        obtain ⟨t432, A770, H⟩ := H
                        replace H : (if t432 = true then (watchmanlaw18_SessionRuns.l0 kj27 a0 l1 a2 x7_27 x8_27 (wrap64 (x10_1 + 1)) x402000_27 x402001_27 x402002_27) else (none)) = some r := H
                        have A77 := Aside0.mk A770
                        clear A770
                        by_cases c78 : t432 = true
                        · subst c78
                          have H1 : (watchmanlaw18_SessionRuns.l0 kj27 a0 l1 a2 x7_27 x8_27 (wrap64 (x10_1 + 1)) x402000_27 x402001_27 x402002_27) = some r := by rw [if_pos rfl] at H; exact H
                          clear H
                          have H := H1
                          clear H1
                          have H' := Aside0.mk H
                          clear H
                          obtain ⟨Ao79, co79, eo79⟩ := Kd.N_slice HO_7.out
                          subst eo79
                          go_wp2_with (first | ((with_reducible refine gate_callee (f := 16) rfl ?_); refine goesL_ (some 91) rfl rfl Try.func16 (by kernel_rfl) rfl #[.slice Ao79 x7_27.length co79, .int .i64 a2] rfl (by (try simp only [List.map_toArray, List.map_cons, List.map_nil]); first | done | rfl | (simp only [List.length_drop, List.length_take]; rfl)) ?_; (with_reducible refine (session_Find.calls _ _ x7_27 a2 t420 t421 t422 t423 t424 t425 false _ ?side1 ?side2 A58.out).mono ?_); (case side1 => repeat (first | exact (Kd.N_reads' HO_7.out).2.2 | (with_reducible refine Kd.C_alloc ?_ _) | (with_reducible refine Kd.C_drewN ?_ _) | (with_reducible refine Kd.C_drew ?_))); (case side2 => exact (Kd.N_reads' HO_7.out).2.1); rintro e w80 ⟨v426, rfl, ho0, hb⟩; refine ⟨_, rfl, ?_⟩; have n0_ := Aside0.mk (Kd.N_elder' (by (with_reducible repeat (first | apply Kd.N_alloc | apply Kd.N_drewN | apply Kd.N_drew)); exact HO_7.out) (Kd.R_base ho0) hb); have n1_ := Aside0.mk (Kd.R_elder' (by (with_reducible repeat (first | apply Kd.R_alloc | apply Kd.R_drewN | apply Kd.R_drew)); exact HO_402002.out) (Kd.R_base ho0) hb); have n2_ := Aside0.mk (Kd.R_lower (Kd.R_new' ho0 (Kd.R_lt (by (with_reducible repeat (first | apply Kd.R_alloc | apply Kd.R_drewN | apply Kd.R_drew)); exact HO_402002.out))) (below_size (by repeat (first | (with_reducible first | exact HB.out | apply below_alloc | apply pw_below_drewN | apply below_drew1 | refine below_set ?_ GE401.out | refine below_set ?_ GE404.out) | exact HB.out)))); have n3_ := Aside0.mk (blk_below (g := gb401) (o := .cells #[.int .i64 x402000_27, .int .i64 x402001_27, u402002] 26 (0, 0)) (by (with_reducible repeat (first | refine blk_drewN ?_ _ | refine blk_drew ?_ | refine blk_alloc ?_ _)); exact BK401.out) hb); have n4_ := Aside0.mk (blk_below (g := gb404) (o := .cells #[.int .i64 ((rd_T45 l1 x10_1).f0), .int .i64 ((rd_T45 l1 x10_1).f1), .int .i64 ((rd_T45 l1 x10_1).f2), .int .i64 ((rd_T45 l1 x10_1).f3.f0), .int .i64 ((rd_T45 l1 x10_1).f3.f1), .slice A403_5 ((rd_T45 l1 x10_1).f3.f2).length c403_5] 45 (0, 0)) (by (with_reducible repeat (first | refine blk_drewN ?_ _ | refine blk_drew ?_ | refine blk_alloc ?_ _)); exact BK404.out) hb); have n5_ := Aside0.mk (below_step (by repeat (first | (with_reducible first | exact HB.out | apply below_alloc | apply pw_below_drewN | apply below_drew1 | refine below_set ?_ GE401.out | refine below_set ?_ GE404.out) | exact HB.out)) hb); clear HO_7; clear HO_402002; clear BK401; clear BK404; clear HB; have HO_7 := n0_; have HO_402002 := n1_; have HO427 := n2_; have BK401 := n3_; have BK404 := n4_; have HB := n5_; clear n0_ n1_ n2_ n3_ n4_ n5_; (try clear hb); (try clear hb2); (try clear hk); (try clear hi); (try clear ho0)) | ((with_reducible refine gate_dst (N := 17) rfl ?_); refine box_event ?hg (N := 17) ?hd (cs := #[.int .i64 0, .int .i64 0, .int .i64 0, .int .i64 0, .int .i64 0, .slice none 0 0]) (t := 39) ?hr ?_; (case hd => rfl); (case hg => rfl); (case hr => first | (go_simp; done) | (go_simp; rfl)); intro gb429 hg w81 hbox hb; have n0_ := Aside0.mk (Kd.N_below (Kd.N_elderB (by (with_reducible repeat (first | apply Kd.N_alloc | apply Kd.N_drewN | apply Kd.N_drew)); exact HO_7.out) gb429 (Nat.le_of_eq hg.symm)) hb); have n1_ := Aside0.mk (Kd.R_below (by (with_reducible repeat (first | apply Kd.R_alloc | apply Kd.R_drewN | apply Kd.R_drew)); exact HO_402002.out) hb); have n2_ := Aside0.mk (Kd.R_below (by (with_reducible repeat (first | apply Kd.R_alloc | apply Kd.R_drewN | apply Kd.R_drew)); exact HO427.out) hb); have n3_ := Aside0.mk (blk_below (g := gb401) (o := .cells #[.int .i64 x402000_27, .int .i64 x402001_27, u402002] 26 (0, 0)) (by (with_reducible repeat (first | refine blk_drewN ?_ _ | refine blk_drew ?_ | refine blk_alloc ?_ _)); exact BK401.out) hb); have n4_ := Aside0.mk (blk_below (g := gb404) (o := .cells #[.int .i64 ((rd_T45 l1 x10_1).f0), .int .i64 ((rd_T45 l1 x10_1).f1), .int .i64 ((rd_T45 l1 x10_1).f2), .int .i64 ((rd_T45 l1 x10_1).f3.f0), .int .i64 ((rd_T45 l1 x10_1).f3.f1), .slice A403_5 ((rd_T45 l1 x10_1).f3.f2).length c403_5] 45 (0, 0)) (by (with_reducible repeat (first | refine blk_drewN ?_ _ | refine blk_drew ?_ | refine blk_alloc ?_ _)); exact BK404.out) hb); have n5_ := Aside0.mk (below_step (by repeat (first | (with_reducible first | exact HB.out | apply below_alloc | apply pw_below_drewN | apply below_drew1 | refine below_set ?_ GE401.out | refine below_set ?_ GE404.out) | exact HB.out)) hb); have n6_ := Aside0.mk (hbox); have n7_ := Aside0.mk ((by rw [hg]; exact (below_size (by repeat (first | (with_reducible first | exact HB.out | apply below_alloc | apply pw_below_drewN | apply below_drew1 | refine below_set ?_ GE401.out | refine below_set ?_ GE404.out) | exact HB.out))) : w.heap.size ≤ gb429)); have n8_ := Aside0.mk ((by rw [hg]; exact (below_size (by repeat (first | (with_reducible first | exact HB.out | apply below_alloc | apply pw_below_drewN | apply below_drew1 | refine below_set ?_ GE401.out | refine below_set ?_ GE404.out) | exact HB.out))) : w.heap.size ≤ gb429)); have n9_ := Aside0.mk ((by rw [hg]; exact Nat.ne_of_lt (blk_lt (g := gb401) (o := .cells #[.int .i64 x402000_27, .int .i64 x402001_27, u402002] 26 (0, 0)) (by (with_reducible repeat (first | refine blk_drewN ?_ _ | refine blk_drew ?_ | refine blk_alloc ?_ _)); exact BK401.out)) : gb401 ≠ gb429)); have n10_ := Aside0.mk ((by rw [hg]; exact Nat.ne_of_gt (blk_lt (g := gb401) (o := .cells #[.int .i64 x402000_27, .int .i64 x402001_27, u402002] 26 (0, 0)) (by (with_reducible repeat (first | refine blk_drewN ?_ _ | refine blk_drew ?_ | refine blk_alloc ?_ _)); exact BK401.out)) : gb429 ≠ gb401)); have n11_ := Aside0.mk ((by rw [hg]; exact Nat.ne_of_lt (blk_lt (g := gb404) (o := .cells #[.int .i64 ((rd_T45 l1 x10_1).f0), .int .i64 ((rd_T45 l1 x10_1).f1), .int .i64 ((rd_T45 l1 x10_1).f2), .int .i64 ((rd_T45 l1 x10_1).f3.f0), .int .i64 ((rd_T45 l1 x10_1).f3.f1), .slice A403_5 ((rd_T45 l1 x10_1).f3.f2).length c403_5] 45 (0, 0)) (by (with_reducible repeat (first | refine blk_drewN ?_ _ | refine blk_drew ?_ | refine blk_alloc ?_ _)); exact BK404.out)) : gb404 ≠ gb429)); have n12_ := Aside0.mk ((by rw [hg]; exact Nat.ne_of_gt (blk_lt (g := gb404) (o := .cells #[.int .i64 ((rd_T45 l1 x10_1).f0), .int .i64 ((rd_T45 l1 x10_1).f1), .int .i64 ((rd_T45 l1 x10_1).f2), .int .i64 ((rd_T45 l1 x10_1).f3.f0), .int .i64 ((rd_T45 l1 x10_1).f3.f1), .slice A403_5 ((rd_T45 l1 x10_1).f3.f2).length c403_5] 45 (0, 0)) (by (with_reducible repeat (first | refine blk_drewN ?_ _ | refine blk_drew ?_ | refine blk_alloc ?_ _)); exact BK404.out)) : gb429 ≠ gb404)); clear HO_7; clear HO_402002; clear HO427; clear BK401; clear BK404; clear HB; have HO_7 := n0_; have HO_402002 := n1_; have HO427 := n2_; have BK401 := n3_; have BK404 := n4_; have HB := n5_; have BK429 := n6_; have GW429 := n7_; have GE429 := n8_; have NB401_429 := n9_; have NB429_401 := n10_; have NB404_429 := n11_; have NB429_404 := n12_; clear n0_ n1_ n2_ n3_ n4_ n5_ n6_ n7_ n8_ n9_ n10_ n11_ n12_; clear hb hbox hg; have hnb82 := NB429_401.out; have hnc82 := NB401_429.out; have hnb83 := NB429_404.out; have hnc83 := NB404_429.out; have hcz84_0 : w81.cell? ⟨gb429, 0, none⟩ = some (.int .i64 0) := (blk_cell BK429.out 0).trans rfl; have hcz84_1 : w81.cell? ⟨gb429, 1, none⟩ = some (.int .i64 0) := (blk_cell BK429.out 1).trans rfl; have hcz84_2 : w81.cell? ⟨gb429, 2, none⟩ = some (.int .i64 0) := (blk_cell BK429.out 2).trans rfl; have hcz84_3 : w81.cell? ⟨gb429, 3, none⟩ = some (.int .i64 0) := (blk_cell BK429.out 3).trans rfl; have hcz84_4 : w81.cell? ⟨gb429, 4, none⟩ = some (.int .i64 0) := (blk_cell BK429.out 4).trans rfl; have hcz84_5 : w81.cell? ⟨gb429, 5, none⟩ = some (.slice none 0 0) := (blk_cell BK429.out 5).trans rfl; have hfz84_0 := blk_frozen BK429.out 0; have hfz84_1 := blk_frozen BK429.out 1; have hfz84_2 := blk_frozen BK429.out 2; have hfz84_3 := blk_frozen BK429.out 3; have hfz84_4 := blk_frozen BK429.out 4; have hfz84_5 := blk_frozen BK429.out 5; obtain ⟨Ao85, co85, eo85⟩ := Kd.R_slice HO427.out; subst eo85) | (go_at_call 14; (with_reducible refine (session_Is.calls kj27 _ _ x7_27 true _ ?side1 ?side2 A77.out).mono ?_); (case side1 => refine (Kd.N_reads' (e := 39) (base := w.heap.size) (ok := fun k_ => (((some k_ ≠ (u402002 : Value).ownBlock ∧ (k_ ≠ gb401 ∧ k_ ≠ gb404)) ∧ some k_ ≠ (.slice Ao85 t425.length co85 : Value).ownBlock) ∧ k_ ≠ gb429)) (n := x7_27.length) (c := co79) ?_).2.2; exact (by (with_reducible repeat (first | apply Kd.N_alloc | apply Kd.N_drewN | apply Kd.N_drew)); exact (Kd.N_mono (Kd.N_far (p := ⟨gb429, 5, none⟩) (Kd.N_far (p := ⟨gb429, 4, none⟩) (Kd.N_far (p := ⟨gb429, 3, none⟩) (Kd.N_far (p := ⟨gb429, 2, none⟩) (Kd.N_far (p := ⟨gb429, 1, none⟩) (Kd.N_far (p := ⟨gb429, 0, none⟩) (Kd.N_mono HO_7.out (fun k_ hk => (⟨hk, hk.2⟩ : _ ∧ k_ ≠ gb429))) (fun _ hk => hk.2) (.int .i64 t420)) (fun _ hk => hk.2) (.int .i64 t421)) (fun _ hk => hk.2) (.int .i64 t422)) (fun _ hk => hk.2) (.int .i64 t423)) (fun _ hk => hk.2) (.int .i64 t424)) (fun _ hk => hk.2) (.slice Ao85 t425.length co85)) (fun _ h_ => h_.1)))); (case side2 => exact (Kd.N_reads' HO_7.out).2.1); rintro e w86 ⟨rfl, hb⟩; have n0_ := Aside0.mk (Kd.N_below (by (with_reducible repeat (first | apply Kd.N_alloc | apply Kd.N_drewN | apply Kd.N_drew)); exact (Kd.N_mono (Kd.N_far (p := ⟨gb429, 5, none⟩) (Kd.N_far (p := ⟨gb429, 4, none⟩) (Kd.N_far (p := ⟨gb429, 3, none⟩) (Kd.N_far (p := ⟨gb429, 2, none⟩) (Kd.N_far (p := ⟨gb429, 1, none⟩) (Kd.N_far (p := ⟨gb429, 0, none⟩) (Kd.N_mono HO_7.out (fun k_ hk => (⟨hk, hk.2⟩ : _ ∧ k_ ≠ gb429))) (fun _ hk => hk.2) (.int .i64 t420)) (fun _ hk => hk.2) (.int .i64 t421)) (fun _ hk => hk.2) (.int .i64 t422)) (fun _ hk => hk.2) (.int .i64 t423)) (fun _ hk => hk.2) (.int .i64 t424)) (fun _ hk => hk.2) (.slice Ao85 t425.length co85)) (fun _ h_ => h_.1))) hb); have n1_ := Aside0.mk (Kd.R_below (by (with_reducible repeat (first | apply Kd.R_alloc | apply Kd.R_drewN | apply Kd.R_drew)); exact (Kd.R_mono (Kd.R_far (p := ⟨gb429, 5, none⟩) (Kd.R_far (p := ⟨gb429, 4, none⟩) (Kd.R_far (p := ⟨gb429, 3, none⟩) (Kd.R_far (p := ⟨gb429, 2, none⟩) (Kd.R_far (p := ⟨gb429, 1, none⟩) (Kd.R_far (p := ⟨gb429, 0, none⟩) (Kd.R_types HO_402002.out BK429.out (by decide)) (fun _ hk => hk.2) (.int .i64 t420)) (fun _ hk => hk.2) (.int .i64 t421)) (fun _ hk => hk.2) (.int .i64 t422)) (fun _ hk => hk.2) (.int .i64 t423)) (fun _ hk => hk.2) (.int .i64 t424)) (fun _ hk => hk.2) (.slice Ao85 t425.length co85)) (fun _ h_ => h_.1))) hb); have n2_ := Aside0.mk (Kd.R_below (by (with_reducible repeat (first | apply Kd.R_alloc | apply Kd.R_drewN | apply Kd.R_drew)); exact (Kd.R_mono (Kd.R_far (p := ⟨gb429, 5, none⟩) (Kd.R_far (p := ⟨gb429, 4, none⟩) (Kd.R_far (p := ⟨gb429, 3, none⟩) (Kd.R_far (p := ⟨gb429, 2, none⟩) (Kd.R_far (p := ⟨gb429, 1, none⟩) (Kd.R_far (p := ⟨gb429, 0, none⟩) (Kd.R_types HO427.out BK429.out (by decide)) (fun _ hk => hk.2) (.int .i64 t420)) (fun _ hk => hk.2) (.int .i64 t421)) (fun _ hk => hk.2) (.int .i64 t422)) (fun _ hk => hk.2) (.int .i64 t423)) (fun _ hk => hk.2) (.int .i64 t424)) (fun _ hk => hk.2) (.slice Ao85 t425.length co85)) (fun _ h_ => h_.1))) hb); have n3_ := Aside0.mk (blk_below (g := gb401) (o := .cells #[.int .i64 x402000_27, .int .i64 x402001_27, u402002] 26 (0, 0)) (by (with_reducible repeat (first | refine blk_drewN ?_ _ | refine blk_drew ?_ | refine blk_alloc ?_ _)); refine blk_far ?_ NB401_429.out _; (with_reducible repeat (first | refine blk_drewN ?_ _ | refine blk_drew ?_ | refine blk_alloc ?_ _)); refine blk_far ?_ NB401_429.out _; (with_reducible repeat (first | refine blk_drewN ?_ _ | refine blk_drew ?_ | refine blk_alloc ?_ _)); refine blk_far ?_ NB401_429.out _; (with_reducible repeat (first | refine blk_drewN ?_ _ | refine blk_drew ?_ | refine blk_alloc ?_ _)); refine blk_far ?_ NB401_429.out _; (with_reducible repeat (first | refine blk_drewN ?_ _ | refine blk_drew ?_ | refine blk_alloc ?_ _)); refine blk_far ?_ NB401_429.out _; (with_reducible repeat (first | refine blk_drewN ?_ _ | refine blk_drew ?_ | refine blk_alloc ?_ _)); refine blk_far ?_ NB401_429.out _; (with_reducible repeat (first | refine blk_drewN ?_ _ | refine blk_drew ?_ | refine blk_alloc ?_ _)); exact BK401.out) hb); have n4_ := Aside0.mk (blk_below (g := gb404) (o := .cells #[.int .i64 ((rd_T45 l1 x10_1).f0), .int .i64 ((rd_T45 l1 x10_1).f1), .int .i64 ((rd_T45 l1 x10_1).f2), .int .i64 ((rd_T45 l1 x10_1).f3.f0), .int .i64 ((rd_T45 l1 x10_1).f3.f1), .slice A403_5 ((rd_T45 l1 x10_1).f3.f2).length c403_5] 45 (0, 0)) (by (with_reducible repeat (first | refine blk_drewN ?_ _ | refine blk_drew ?_ | refine blk_alloc ?_ _)); refine blk_far ?_ NB404_429.out _; (with_reducible repeat (first | refine blk_drewN ?_ _ | refine blk_drew ?_ | refine blk_alloc ?_ _)); refine blk_far ?_ NB404_429.out _; (with_reducible repeat (first | refine blk_drewN ?_ _ | refine blk_drew ?_ | refine blk_alloc ?_ _)); refine blk_far ?_ NB404_429.out _; (with_reducible repeat (first | refine blk_drewN ?_ _ | refine blk_drew ?_ | refine blk_alloc ?_ _)); refine blk_far ?_ NB404_429.out _; (with_reducible repeat (first | refine blk_drewN ?_ _ | refine blk_drew ?_ | refine blk_alloc ?_ _)); refine blk_far ?_ NB404_429.out _; (with_reducible repeat (first | refine blk_drewN ?_ _ | refine blk_drew ?_ | refine blk_alloc ?_ _)); refine blk_far ?_ NB404_429.out _; (with_reducible repeat (first | refine blk_drewN ?_ _ | refine blk_drew ?_ | refine blk_alloc ?_ _)); exact BK404.out) hb); have n5_ := Aside0.mk (blk_below (g := gb429) (o := .cells #[.int .i64 t420, .int .i64 t421, .int .i64 t422, .int .i64 t423, .int .i64 t424, .slice Ao85 t425.length co85] 39 (0, 0)) (by (with_reducible repeat (first | refine blk_drewN ?_ _ | refine blk_drew ?_ | refine blk_alloc ?_ _)); refine blk_put (cs := #[.int .i64 t420, .int .i64 t421, .int .i64 t422, .int .i64 t423, .int .i64 t424, .slice none 0 0]) ?_ 5 _ rfl; (with_reducible repeat (first | refine blk_drewN ?_ _ | refine blk_drew ?_ | refine blk_alloc ?_ _)); refine blk_put (cs := #[.int .i64 t420, .int .i64 t421, .int .i64 t422, .int .i64 t423, .int .i64 0, .slice none 0 0]) ?_ 4 _ rfl; (with_reducible repeat (first | refine blk_drewN ?_ _ | refine blk_drew ?_ | refine blk_alloc ?_ _)); refine blk_put (cs := #[.int .i64 t420, .int .i64 t421, .int .i64 t422, .int .i64 0, .int .i64 0, .slice none 0 0]) ?_ 3 _ rfl; (with_reducible repeat (first | refine blk_drewN ?_ _ | refine blk_drew ?_ | refine blk_alloc ?_ _)); refine blk_put (cs := #[.int .i64 t420, .int .i64 t421, .int .i64 0, .int .i64 0, .int .i64 0, .slice none 0 0]) ?_ 2 _ rfl; (with_reducible repeat (first | refine blk_drewN ?_ _ | refine blk_drew ?_ | refine blk_alloc ?_ _)); refine blk_put (cs := #[.int .i64 t420, .int .i64 0, .int .i64 0, .int .i64 0, .int .i64 0, .slice none 0 0]) ?_ 1 _ rfl; (with_reducible repeat (first | refine blk_drewN ?_ _ | refine blk_drew ?_ | refine blk_alloc ?_ _)); refine blk_put (cs := #[.int .i64 0, .int .i64 0, .int .i64 0, .int .i64 0, .int .i64 0, .slice none 0 0]) ?_ 0 _ rfl; (with_reducible repeat (first | refine blk_drewN ?_ _ | refine blk_drew ?_ | refine blk_alloc ?_ _)); exact BK429.out) hb); have n6_ := Aside0.mk (below_step (by repeat (first | (with_reducible first | exact HB.out | apply below_alloc | apply pw_below_drewN | apply below_drew1 | refine below_set ?_ GE401.out | refine below_set ?_ GE404.out | refine below_set ?_ GE429.out) | exact HB.out)) hb); clear HO_7; clear HO_402002; clear HO427; clear BK401; clear BK404; clear BK429; clear HB; have HO_7 := n0_; have HO_402002 := n1_; have HO427 := n2_; have BK401 := n3_; have BK404 := n4_; have BK429 := n5_; have HB := n6_; clear n0_ n1_ n2_ n3_ n4_ n5_ n6_; (try clear hb); (try clear hb2); (try clear hk); (try clear hi)))
                          go_roundg kj27
                          case measure => have := HK1.out; have := HJ14.out; have := HJ27.out; omega
                          case rel => exact ⟨(x7_27), (x8_27), (wrap64 (x10_1 + 1)), (x402000_27), (x402001_27), (x402002_27), (u402002), (by first | rfl | (simp; done) | (simp [*]; done)), (by first | rfl | (simp; done) | (simp [*]; done)), H', ⟨by have := HK1.out; have := HJ14.out; have := HJ27.out; omega⟩, ⟨by (with_reducible repeat (first | apply Kd.N_alloc | apply Kd.N_drewN | apply Kd.N_drew)); exact Kd.N_mono HO_7.out (fun _ hk => ⟨hk.1.1.1, hk.1.1.2.1⟩)⟩, ⟨by (with_reducible repeat (first | apply Kd.R_alloc | apply Kd.R_drewN | apply Kd.R_drew)); exact Kd.R_mono HO_402002.out (fun _ hk => trivial)⟩, ⟨by (with_reducible repeat (first | refine blk_drewN ?_ _ | refine blk_drew ?_ | refine blk_alloc ?_ _)); exact BK401.out⟩, ⟨by repeat (first | (with_reducible first | exact HB.out | apply below_alloc | apply pw_below_drewN | apply below_drew1 | refine below_set ?_ GE401.out | refine below_set ?_ GE404.out | refine below_set ?_ GE429.out) | exact HB.out)⟩⟩
                        · replace c78 := Bool.eq_false_iff.mpr c78
                          subst c78
                          have H1 : (none) = some r := by rw [if_neg (show ¬ (false = true) by decide)] at H; exact H
                          clear H
                          have H := H1
                          clear H1
                          exact absurd H (by simp)
          · rw [if_neg c8] at H
            exact absurd H (by simp)
        · rw [if_neg c7] at H
          have c7b0 : decide (x10_1 < (l1.length : Int)) = false := decide_eq_false c7
          clear c7
          replace H := Option.bind_eq_some_iff.mp H
          obtain ⟨t402, A870, H⟩ := H
          replace H : (some t402) = some r := H
          have A87 := Aside0.mk A870
          clear A870
          obtain rfl := Option.some.inj H
          go_wp2_with (first | ((with_reducible refine gate_callee (f := 11) rfl ?_); refine goesL_ (some 113) rfl rfl Try.func11 (by kernel_rfl) rfl #[] rfl (by (try simp only [List.map_toArray, List.map_cons, List.map_nil]); first | done | rfl | (simp only [List.length_drop, List.length_take]; rfl)) ?_; (with_reducible refine (watchmanlaw18_asked.calls k1  t402 _ A87.out).mono ?_); rintro e w88 ⟨rfl, hb⟩; refine ⟨_, rfl, ?_⟩; have n0_ := Aside0.mk (Kd.N_below (by (with_reducible repeat (first | apply Kd.N_alloc | apply Kd.N_drewN | apply Kd.N_drew)); exact HO_7.out) hb); have n1_ := Aside0.mk (Kd.R_below (by (with_reducible repeat (first | apply Kd.R_alloc | apply Kd.R_drewN | apply Kd.R_drew)); exact HO_402002.out) hb); have n2_ := Aside0.mk (blk_below (g := gb401) (o := .cells #[.int .i64 x402000_1, .int .i64 x402001_1, u402002] 26 (0, 0)) (by (with_reducible repeat (first | refine blk_drewN ?_ _ | refine blk_drew ?_ | refine blk_alloc ?_ _)); exact BK401.out) hb); have n3_ := Aside0.mk (below_step (by repeat (first | (with_reducible first | exact HB.out | apply below_alloc | apply pw_below_drewN | apply below_drew1 | refine below_set ?_ GE401.out) | exact HB.out)) hb); clear HO_7; clear HO_402002; clear BK401; clear HB; have HO_7 := n0_; have HO_402002 := n1_; have BK401 := n2_; have HB := n3_; clear n0_ n1_ n2_ n3_; (try clear hb); (try clear hb2); (try clear hk); (try clear hi)))
          go_ret
          exact ⟨by first | rfl | (simp [errW_none, errW_some] <;> rfl) | (simp [*, errW_none, errW_some] <;> rfl), by repeat (first | (with_reducible first | exact HB.out | apply below_alloc | apply pw_below_drewN | apply below_drew1 | refine below_set ?_ GE401.out) | exact HB.out)⟩

end Go.Proofs.Ytkhdpmbjjcmooaa.F
