-- Written by a program of this session (xprint.py), out of the translation and of contracts proved by hand.
import Derived.Test.YtofbkpdpgmjllaaF0
import Derived.Test.YtofbkpdpgmjllaaF3
import Derived.Test.YtofbkpdpgmjllaaF4
import Derived.Test.YtofbkpdpgmjllaaF9
import Derived.Test.YtofbkpdpgmjllaaF10
import Derived.Test.YtofbkpdpgmjllaaF11
import Derived.Test.YtofbkpdpgmjllaaF13
namespace Go.Proofs.Ytofbkpdpgmjllaa.F
open Go.RowKit Go.Proofs.YtofbkpdpgmjllaaW.PrintWords Go.Proofs.YtofbkpdpgmjllaaW.PrintLast Go.Proofs.YtofbkpdpgmjllaaW.PrintMore
attribute [local go_sem] max2_int min2_int max_two min_two max_three min_three max_four min_four   -- for this text's walks alone
set_option linter.unusedVariables false
set_option linter.unusedSimpArgs false

/-! ### watchmanlaw21_PostOnly: function 6 -/
mutual
def watchmanlaw21_PostOnly.j0 : Nat → List Int → Bool → Int → List (S35) → Option (Bool)
  | 0, _, _, _, _ => none
  | k + 1, x1, x19, x240000, x240001 => if x19 = true then (some true) else ((post_Only.f k x240000 x240001 x1).bind fun bt241 => (if bt241.2.2 = 0 then (watchmanlaw21_PostOnly.l0 k x1 0 0 x240000 x240001 bt241.1 bt241.2.1) else ((watchmanlaw21_posted.f k).bind fun t247 => (if t247 = true then ((post_Is.f k x240000 x240001).bind fun t248 => (some (!t248))) else (none)))))
def watchmanlaw21_PostOnly.l0 : Nat → List Int → Int → Int → Int → List (S35) → Int → List (S35) → Option (Bool)
  | 0, _, _, _, _, _, _, _ => none
  | k + 1, x1, x7, x8, x240000, x240001, x247000, x247001 => if x8 ≤ 20 then (watchmanlaw21_PostOnly.l1 k x1 x7 x8 false 0 x240000 x240001 x247000 x247001) else ((watchmanlaw21_posted.f k).bind fun t257 => (if t257 = true then (if x7 = (x247001.length : Int) then (if x247000 = x240000 then ((post_Is.f k x247000 x247001).bind fun t258 => (some t258)) else (none)) else (none)) else (none)))
def watchmanlaw21_PostOnly.l1 : Nat → List Int → Int → Int → Bool → Int → Int → List (S35) → Int → List (S35) → Option (Bool)
  | 0, _, _, _, _, _, _, _, _, _ => none
  | k + 1, x1, x7, x8, x9, x10, x240000, x240001, x247000, x247001 => if x10 < (x1.length : Int) then (if x9 = true then (watchmanlaw21_PostOnly.l1 k x1 x7 x8 true (wrap64 (x10 + 1)) x240000 x240001 x247000 x247001) else (if 0 ≤ x10 then (watchmanlaw21_PostOnly.l1 k x1 x7 x8 ((rd x1 x10) == x8) (wrap64 (x10 + 1)) x240000 x240001 x247000 x247001) else (none))) else ((post_To.f x247000 x247001 x8).bind fun t250 => ((post_To.f x240000 x240001 x8).bind fun t253 => (if x9 = true then ((watchmanref21_SameLetters.f k t250 t253).bind fun t256 => (if t256 = true then (watchmanlaw21_PostOnly.j3 k x1 x7 x8 t250 false x240000 x240001 x247000 x247001) else (none))) else (watchmanlaw21_PostOnly.j3 k x1 x7 x8 t250 (decide ((t250.length : Int) > 0)) x240000 x240001 x247000 x247001))))
def watchmanlaw21_PostOnly.j3 : Nat → List Int → Int → Int → List (S35) → Bool → Int → List (S35) → Int → List (S35) → Option (Bool)
  | 0, _, _, _, _, _, _, _, _, _ => none
  | k + 1, x1, x7, x8, x11, x74, x240000, x240001, x247000, x247001 => if x74 = true then (none) else (watchmanlaw21_PostOnly.l0 k x1 (wrap64 (x7 + (x11.length : Int))) (wrap64 (x8 + 1)) x240000 x240001 x247000 x247001)
end
def watchmanlaw21_PostOnly.f (k : Nat) (a0_0 : Int) (l0_1 : List (S35)) (l1 : List Int) : Option (Bool) := (watchmanlaw21_far.f k a0_0 l0_1 ([] : List ByteArray)).bind fun t240 => (if t240 = true then (watchmanlaw21_PostOnly.j0 k l1 true a0_0 l0_1) else (watchmanlaw21_PostOnly.j0 k l1 (decide ((l1.length : Int) > 60)) a0_0 l0_1))
theorem watchmanlaw21_PostOnly.mono_l : ∀ k, (∀ y0 y1 y2 y3, LeO (watchmanlaw21_PostOnly.j0 k y0 y1 y2 y3) (watchmanlaw21_PostOnly.j0 (k + 1) y0 y1 y2 y3)) ∧ (∀ y0 y1 y2 y3 y4 y5 y6, LeO (watchmanlaw21_PostOnly.l0 k y0 y1 y2 y3 y4 y5 y6) (watchmanlaw21_PostOnly.l0 (k + 1) y0 y1 y2 y3 y4 y5 y6)) ∧ (∀ y0 y1 y2 y3 y4 y5 y6 y7 y8, LeO (watchmanlaw21_PostOnly.l1 k y0 y1 y2 y3 y4 y5 y6 y7 y8) (watchmanlaw21_PostOnly.l1 (k + 1) y0 y1 y2 y3 y4 y5 y6 y7 y8)) ∧ (∀ y0 y1 y2 y3 y4 y5 y6 y7 y8, LeO (watchmanlaw21_PostOnly.j3 k y0 y1 y2 y3 y4 y5 y6 y7 y8) (watchmanlaw21_PostOnly.j3 (k + 1) y0 y1 y2 y3 y4 y5 y6 y7 y8))
  | 0 => ⟨fun _ _ _ _ r h => by simp [watchmanlaw21_PostOnly.j0] at h, fun _ _ _ _ _ _ _ r h => by simp [watchmanlaw21_PostOnly.l0] at h, fun _ _ _ _ _ _ _ _ _ r h => by simp [watchmanlaw21_PostOnly.l1] at h, fun _ _ _ _ _ _ _ _ _ r h => by simp [watchmanlaw21_PostOnly.j3] at h⟩
  | k + 1 => by
    obtain ⟨ih0, ih1, ih2, ih3⟩ := watchmanlaw21_PostOnly.mono_l k
    refine ⟨?_, ?_, ?_, ?_⟩
    · intro y0 y1 y2 y3
      unfold watchmanlaw21_PostOnly.j0
      repeat' first
      | (with_reducible exact ih0 _ _ _ _)
      | (with_reducible exact ih1 _ _ _ _ _ _ _)
      | (with_reducible exact ih2 _ _ _ _ _ _ _ _ _)
      | (with_reducible exact ih3 _ _ _ _ _ _ _ _ _)
      | (with_reducible exact post_Is.mono _ _ _)
      | (with_reducible exact post_Only.mono _ _ _ _)
      | (with_reducible exact watchmanlaw21_far.mono _ _ _ _)
      | (with_reducible exact watchmanlaw21_posted.mono _)
      | (with_reducible exact watchmanref21_SameLetters.mono _ _ _)
      | (with_reducible exact LeO.refl _)
      | (with_reducible exact LeO.none _)
      | (with_reducible refine LeO.ite ?_ ?_)
      | (with_reducible refine LeO.bind ?_ (fun _ => ?_))
      | exact ih0 _ _ _ _
      | exact ih1 _ _ _ _ _ _ _
      | exact ih2 _ _ _ _ _ _ _ _ _
      | exact ih3 _ _ _ _ _ _ _ _ _
      | exact post_Is.mono _ _ _
      | exact post_Only.mono _ _ _ _
      | exact watchmanlaw21_far.mono _ _ _ _
      | exact watchmanlaw21_posted.mono _
      | exact watchmanref21_SameLetters.mono _ _ _
      | exact LeO.none _
      | refine LeO.ite ?_ ?_
      | refine LeO.bind ?_ (fun _ => ?_)
    · intro y0 y1 y2 y3 y4 y5 y6
      unfold watchmanlaw21_PostOnly.l0
      repeat' first
      | (with_reducible exact ih0 _ _ _ _)
      | (with_reducible exact ih1 _ _ _ _ _ _ _)
      | (with_reducible exact ih2 _ _ _ _ _ _ _ _ _)
      | (with_reducible exact ih3 _ _ _ _ _ _ _ _ _)
      | (with_reducible exact post_Is.mono _ _ _)
      | (with_reducible exact post_Only.mono _ _ _ _)
      | (with_reducible exact watchmanlaw21_far.mono _ _ _ _)
      | (with_reducible exact watchmanlaw21_posted.mono _)
      | (with_reducible exact watchmanref21_SameLetters.mono _ _ _)
      | (with_reducible exact LeO.refl _)
      | (with_reducible exact LeO.none _)
      | (with_reducible refine LeO.ite ?_ ?_)
      | (with_reducible refine LeO.bind ?_ (fun _ => ?_))
      | exact ih0 _ _ _ _
      | exact ih1 _ _ _ _ _ _ _
      | exact ih2 _ _ _ _ _ _ _ _ _
      | exact ih3 _ _ _ _ _ _ _ _ _
      | exact post_Is.mono _ _ _
      | exact post_Only.mono _ _ _ _
      | exact watchmanlaw21_far.mono _ _ _ _
      | exact watchmanlaw21_posted.mono _
      | exact watchmanref21_SameLetters.mono _ _ _
      | exact LeO.none _
      | refine LeO.ite ?_ ?_
      | refine LeO.bind ?_ (fun _ => ?_)
    · intro y0 y1 y2 y3 y4 y5 y6 y7 y8
      unfold watchmanlaw21_PostOnly.l1
      repeat' first
      | (with_reducible exact ih0 _ _ _ _)
      | (with_reducible exact ih1 _ _ _ _ _ _ _)
      | (with_reducible exact ih2 _ _ _ _ _ _ _ _ _)
      | (with_reducible exact ih3 _ _ _ _ _ _ _ _ _)
      | (with_reducible exact post_Is.mono _ _ _)
      | (with_reducible exact post_Only.mono _ _ _ _)
      | (with_reducible exact watchmanlaw21_far.mono _ _ _ _)
      | (with_reducible exact watchmanlaw21_posted.mono _)
      | (with_reducible exact watchmanref21_SameLetters.mono _ _ _)
      | (with_reducible exact LeO.refl _)
      | (with_reducible exact LeO.none _)
      | (with_reducible refine LeO.ite ?_ ?_)
      | (with_reducible refine LeO.bind ?_ (fun _ => ?_))
      | exact ih0 _ _ _ _
      | exact ih1 _ _ _ _ _ _ _
      | exact ih2 _ _ _ _ _ _ _ _ _
      | exact ih3 _ _ _ _ _ _ _ _ _
      | exact post_Is.mono _ _ _
      | exact post_Only.mono _ _ _ _
      | exact watchmanlaw21_far.mono _ _ _ _
      | exact watchmanlaw21_posted.mono _
      | exact watchmanref21_SameLetters.mono _ _ _
      | exact LeO.none _
      | refine LeO.ite ?_ ?_
      | refine LeO.bind ?_ (fun _ => ?_)
    · intro y0 y1 y2 y3 y4 y5 y6 y7 y8
      unfold watchmanlaw21_PostOnly.j3
      repeat' first
      | (with_reducible exact ih0 _ _ _ _)
      | (with_reducible exact ih1 _ _ _ _ _ _ _)
      | (with_reducible exact ih2 _ _ _ _ _ _ _ _ _)
      | (with_reducible exact ih3 _ _ _ _ _ _ _ _ _)
      | (with_reducible exact post_Is.mono _ _ _)
      | (with_reducible exact post_Only.mono _ _ _ _)
      | (with_reducible exact watchmanlaw21_far.mono _ _ _ _)
      | (with_reducible exact watchmanlaw21_posted.mono _)
      | (with_reducible exact watchmanref21_SameLetters.mono _ _ _)
      | (with_reducible exact LeO.refl _)
      | (with_reducible exact LeO.none _)
      | (with_reducible refine LeO.ite ?_ ?_)
      | (with_reducible refine LeO.bind ?_ (fun _ => ?_))
      | exact ih0 _ _ _ _
      | exact ih1 _ _ _ _ _ _ _
      | exact ih2 _ _ _ _ _ _ _ _ _
      | exact ih3 _ _ _ _ _ _ _ _ _
      | exact post_Is.mono _ _ _
      | exact post_Only.mono _ _ _ _
      | exact watchmanlaw21_far.mono _ _ _ _
      | exact watchmanlaw21_posted.mono _
      | exact watchmanref21_SameLetters.mono _ _ _
      | exact LeO.none _
      | refine LeO.ite ?_ ?_
      | refine LeO.bind ?_ (fun _ => ?_)
theorem watchmanlaw21_PostOnly.mono : ∀ a0 a1 a2 k, LeO (watchmanlaw21_PostOnly.f k a0 a1 a2) (watchmanlaw21_PostOnly.f (k + 1) a0 a1 a2) := by
  intro a0 a1 a2 k
  obtain ⟨ih0, ih1, ih2, ih3⟩ := watchmanlaw21_PostOnly.mono_l k
  unfold watchmanlaw21_PostOnly.f
  repeat' first
      | (with_reducible exact ih0 _ _ _ _)
      | (with_reducible exact ih1 _ _ _ _ _ _ _)
      | (with_reducible exact ih2 _ _ _ _ _ _ _ _ _)
      | (with_reducible exact ih3 _ _ _ _ _ _ _ _ _)
      | (with_reducible exact post_Is.mono _ _ _)
      | (with_reducible exact post_Only.mono _ _ _ _)
      | (with_reducible exact watchmanlaw21_far.mono _ _ _ _)
      | (with_reducible exact watchmanlaw21_posted.mono _)
      | (with_reducible exact watchmanref21_SameLetters.mono _ _ _)
      | (with_reducible exact LeO.refl _)
      | (with_reducible exact LeO.none _)
      | (with_reducible refine LeO.ite ?_ ?_)
      | (with_reducible refine LeO.bind ?_ (fun _ => ?_))
      | exact ih0 _ _ _ _
      | exact ih1 _ _ _ _ _ _ _
      | exact ih2 _ _ _ _ _ _ _ _ _
      | exact ih3 _ _ _ _ _ _ _ _ _
      | exact post_Is.mono _ _ _
      | exact post_Only.mono _ _ _ _
      | exact watchmanlaw21_far.mono _ _ _ _
      | exact watchmanlaw21_posted.mono _
      | exact watchmanref21_SameLetters.mono _ _ _
      | exact LeO.none _
      | refine LeO.ite ?_ ?_
      | refine LeO.bind ?_ (fun _ => ?_)
set_option maxHeartbeats 8000000 in
set_option maxRecDepth 100000 in
theorem watchmanlaw21_PostOnly.calls (k : Nat) (a0_0 : Int) (A0_1 : Option Addr) (c0_1 : Nat) (l0_1 : List (S35)) (A1 : Option Addr) (c1 : Nat) (l1 : List Int) (r : Bool) (w : World) (hr0_1 : Kd.C k35 w A0_1 l0_1.length l0_1) (hc0_1 : l0_1.length ≤ c0_1) (hr1 : Kd.C (Kd.int .i64) w A1 l1.length l1) (hc1 : l1.length ≤ c1) (h : watchmanlaw21_PostOnly.f k a0_0 l0_1 l1 = some r) :
    Calls Try.prog 6 #[.agg #[.int .i64 a0_0, .slice A0_1 l0_1.length c0_1], .slice A1 l1.length c1] w fun e w' => e = .returned (.bool r) ∧ Below w.heap.size w w' := by
  have hu24 := Try.underlying24
  have HR0_1 := Aside0.mk hr0_1
  have HC0_1 := Aside0.mk hc0_1
  clear hr0_1 hc0_1
  have HR1 := Aside0.mk hr1
  have HC1 := Aside0.mk hc1
  clear hr1 hc1
  have HB := Aside0.mk (Below.refl w.heap.size w)
  have H : ((watchmanlaw21_far.f k a0_0 l0_1 ([] : List ByteArray)).bind fun t240 => (if t240 = true then (watchmanlaw21_PostOnly.j0 k l1 true a0_0 l0_1) else (watchmanlaw21_PostOnly.j0 k l1 (decide ((l1.length : Int) > 60)) a0_0 l0_1))) = some r := h
  clear h
  have HC3 := Aside0.mk H
  clear H
  go_enter Try.func6, Try.ntmps6
  go_upto_region 1 with (first | ((with_reducible refine gate_dst (N := 2) rfl ?_); (try (refine gate_guard (by rfl) ?_; dsimp only)); refine box_event ?hg (N := 2) ?hd (cs := #[.int .i64 a0_0, .slice A0_1 l0_1.length c0_1]) (t := 24) ?hr ?_; (case hd => rfl); (case hg => rfl); (case hr => first | (go_simp; done) | (go_simp; rfl)); intro gb239 hg w4 hbox hb; have n0_ := Aside0.mk (below_step HB.out hb); have n1_ := Aside0.mk (hbox); have n2_ := Aside0.mk ((by rw [hg]; exact (below_size HB.out) : w.heap.size ≤ gb239)); have n3_ := Aside0.mk ((by rw [hg]; exact (below_size HB.out) : w.heap.size ≤ gb239)); clear HB; have HB := n0_; have BK239 := n1_; have GW239 := n2_; have GE239 := n3_; clear n0_ n1_ n2_ n3_; clear hb hbox hg))
  (try simp only [Act.put, List.setIfInBounds_toArray, List.set_cons_zero, List.set_cons_succ])
  go_cut [19] (fun v19 wc => ∃ (kq : Nat) (x19_2 : Bool), v19 = .bool x19_2 ∧ Aside0 (watchmanlaw21_PostOnly.j0 kq l1 x19_2 a0_0 l0_1 = some r) ∧ Aside0 (kq ≤ k) ∧ Aside0 (wc.heap[gb239]? = some (.cells #[.int .i64 a0_0, (.slice A0_1 l0_1.length c0_1)] 24 (0, 0))) ∧ Aside0 (Below w.heap.size w wc))
  case first =>
    have H := HC3.out
    clear HC3
    replace H := Option.bind_eq_some_iff.mp H
    obtain ⟨t240, A50, H⟩ := H
    replace H : (if t240 = true then (watchmanlaw21_PostOnly.j0 k l1 true a0_0 l0_1) else (watchmanlaw21_PostOnly.j0 k l1 (decide ((l1.length : Int) > 60)) a0_0 l0_1)) = some r := H
    have A5 := Aside0.mk A50
    clear A50
    by_cases c6 : t240 = true
    · subst c6
      have H1 : (watchmanlaw21_PostOnly.j0 k l1 true a0_0 l0_1) = some r := by rw [if_pos rfl] at H; exact H
      clear H
      have H := H1
      clear H1
      have H' := Aside0.mk H
      clear H
      have hcz7_0 : w4.cell? ⟨gb239, 0, none⟩ = some (.int .i64 a0_0) := (blk_cell BK239.out 0).trans rfl
      have hcz7_1 : w4.cell? ⟨gb239, 1, none⟩ = some (.slice A0_1 l0_1.length c0_1) := (blk_cell BK239.out 1).trans rfl
      have hfz7_0 := blk_frozen BK239.out 0
      have hfz7_1 := blk_frozen BK239.out 1
      go_wp2_with (first | ((with_reducible refine gate_callee (f := 8) rfl ?_); refine goesL_ (some 14) rfl rfl Try.func8 (by kernel_rfl) rfl #[.agg #[.int .i64 a0_0, .slice A0_1 l0_1.length c0_1], .slice none 0 0] rfl (by (try simp only [List.map_toArray, List.map_cons, List.map_nil]); first | done | rfl | (simp only [List.length_drop, List.length_take]; rfl)) ?_; (refine (watchmanlaw21_far.calls k a0_0 _ _ l0_1 _ _ ([] : List ByteArray) true _ ?side1 ?side2 ?side3 ?side4 A5.out).mono ?_); (case side1 => exact (Kd.C_below HR0_1.out HB.out)); (case side2 => exact HC0_1.out); (case side3 => exact Kd.C_nil _ _); (case side4 => exact Nat.le_refl _); rintro e w8 ⟨rfl, hb⟩; refine ⟨_, rfl, ?_⟩; have n0_ := Aside0.mk (blk_below BK239.out hb); have n1_ := Aside0.mk (below_step (by repeat (with_reducible first | exact HB.out | apply pw_below_drewN | apply below_drew1 | refine below_set ?_ GE239.out)) hb); clear BK239; clear HB; have BK239 := n0_; have HB := n1_; clear n0_ n1_; (try clear hb); (try clear hb2); (try clear hk); (try clear hi)))
      go_meet
      case rel => exact ⟨_, (true), (by first | rfl | (simp; done) | (simp [*]; done)), H', ⟨by first | omega | exact Nat.le_refl _⟩, ⟨by (with_reducible repeat (first | refine blk_drewN ?_ _ | refine blk_drew ?_ | refine blk_alloc ?_ _)); exact BK239.out⟩, ⟨by repeat (with_reducible first | exact HB.out | apply pw_below_drewN | apply below_drew1 | refine below_set ?_ GE239.out)⟩⟩
    · replace c6 := Bool.eq_false_iff.mpr c6
      subst c6
      have H1 : (watchmanlaw21_PostOnly.j0 k l1 (decide ((l1.length : Int) > 60)) a0_0 l0_1) = some r := by rw [if_neg (show ¬ (false = true) by decide)] at H; exact H
      clear H
      have H := H1
      clear H1
      have H' := Aside0.mk H
      clear H
      have hcz9_0 : w4.cell? ⟨gb239, 0, none⟩ = some (.int .i64 a0_0) := (blk_cell BK239.out 0).trans rfl
      have hcz9_1 : w4.cell? ⟨gb239, 1, none⟩ = some (.slice A0_1 l0_1.length c0_1) := (blk_cell BK239.out 1).trans rfl
      have hfz9_0 := blk_frozen BK239.out 0
      have hfz9_1 := blk_frozen BK239.out 1
      go_wp2_with (first | ((with_reducible refine gate_callee (f := 8) rfl ?_); refine goesL_ (some 14) rfl rfl Try.func8 (by kernel_rfl) rfl #[.agg #[.int .i64 a0_0, .slice A0_1 l0_1.length c0_1], .slice none 0 0] rfl (by (try simp only [List.map_toArray, List.map_cons, List.map_nil]); first | done | rfl | (simp only [List.length_drop, List.length_take]; rfl)) ?_; (refine (watchmanlaw21_far.calls k a0_0 _ _ l0_1 _ _ ([] : List ByteArray) false _ ?side1 ?side2 ?side3 ?side4 A5.out).mono ?_); (case side1 => exact (Kd.C_below HR0_1.out HB.out)); (case side2 => exact HC0_1.out); (case side3 => exact Kd.C_nil _ _); (case side4 => exact Nat.le_refl _); rintro e w10 ⟨rfl, hb⟩; refine ⟨_, rfl, ?_⟩; have n0_ := Aside0.mk (blk_below BK239.out hb); have n1_ := Aside0.mk (below_step (by repeat (with_reducible first | exact HB.out | apply pw_below_drewN | apply below_drew1 | refine below_set ?_ GE239.out)) hb); clear BK239; clear HB; have BK239 := n0_; have HB := n1_; clear n0_ n1_; (try clear hb); (try clear hb2); (try clear hk); (try clear hi)))
      go_meet
      case rel => exact ⟨_, (decide ((l1.length : Int) > 60)), (by first | rfl | (simp; done) | (simp [*]; done)), H', ⟨by first | omega | exact Nat.le_refl _⟩, ⟨by (with_reducible repeat (first | refine blk_drewN ?_ _ | refine blk_drew ?_ | refine blk_alloc ?_ _)); exact BK239.out⟩, ⟨by repeat (with_reducible first | exact HB.out | apply pw_below_drewN | apply below_drew1 | refine below_set ?_ GE239.out)⟩⟩
  case rest =>
    clear HC3
    try clear c1
    try clear p2
    try clear c6
    try clear c8
    try clear hcz7_0
    try clear hcz7_1
    try clear hcz9_0
    try clear hcz9_1
    try clear hfz7_0
    try clear hfz7_1
    try clear hfz9_0
    try clear hfz9_1
    obtain ⟨kq, x19_2, rfl, HA, HJ2, BK239, HB⟩ := hcut
    cases kq with
    | zero => exact absurd HA.out (by simp [watchmanlaw21_PostOnly.j0])
    | succ kj2 =>
      have H := HA.out
      clear HA
      simp only [watchmanlaw21_PostOnly.j0] at H
      by_cases c11 : x19_2 = true
      · subst c11
        have H1 : (some true) = some r := by rw [if_pos rfl] at H; exact H
        clear H
        have H := H1
        clear H1
        obtain rfl := Option.some.inj H
        go_wp2
        go_ret
        exact ⟨by first | rfl | (simp [errW_none, errW_some] <;> rfl) | (simp [*, errW_none, errW_some] <;> rfl), by repeat (with_reducible first | exact HB.out | apply pw_below_drewN | apply below_drew1 | refine below_set ?_ GE239.out)⟩
      · replace c11 := Bool.eq_false_iff.mpr c11
        subst c11
        have H1 : ((post_Only.f kj2 a0_0 l0_1 l1).bind fun bt241 => (if bt241.2.2 = 0 then (watchmanlaw21_PostOnly.l0 kj2 l1 0 0 a0_0 l0_1 bt241.1 bt241.2.1) else ((watchmanlaw21_posted.f kj2).bind fun t247 => (if t247 = true then ((post_Is.f kj2 a0_0 l0_1).bind fun t248 => (some (!t248))) else (none))))) = some r := by rw [if_neg (show ¬ (false = true) by decide)] at H; exact H
        clear H
        have H := H1
        clear H1
        replace H := Option.bind_eq_some_iff.mp H
        obtain ⟨⟨t241, t242, t245⟩, A120, H⟩ := H
        replace H : (if t245 = 0 then (watchmanlaw21_PostOnly.l0 kj2 l1 0 0 a0_0 l0_1 t241 t242) else ((watchmanlaw21_posted.f kj2).bind fun t247 => (if t247 = true then ((post_Is.f kj2 a0_0 l0_1).bind fun t248 => (some (!t248))) else (none)))) = some r := H
        have A12 := Aside0.mk A120
        clear A120
        by_cases c13 : t245 = 0
        · rw [if_pos c13] at H
          have c13b0 : (t245 == 0) = true := beq_iff_eq.mpr c13
          have c13b1 : (t245 != 0) = false := bne_eq_false_iff_eq.mpr c13
          clear c13
          have H' := Aside0.mk H
          clear H
          have hcz14_0 : wc.cell? ⟨gb239, 0, none⟩ = some (.int .i64 a0_0) := (blk_cell BK239.out 0).trans rfl
          have hcz14_1 : wc.cell? ⟨gb239, 1, none⟩ = some (.slice A0_1 l0_1.length c0_1) := (blk_cell BK239.out 1).trans rfl
          have hfz14_0 := blk_frozen BK239.out 0
          have hfz14_1 := blk_frozen BK239.out 1
          go_wp2_with (first | ((with_reducible refine gate_callee (f := 17) rfl ?_); refine goesL_ (some 23) rfl rfl Try.func17 (by kernel_rfl) rfl #[.agg #[.int .i64 a0_0, .slice A0_1 l0_1.length c0_1], .slice A1 l1.length c1] rfl (by (try simp only [List.map_toArray, List.map_cons, List.map_nil]); first | done | rfl | (simp only [List.length_drop, List.length_take]; rfl)) ?_; (with_reducible refine (post_Only.calls kj2 a0_0 _ _ l0_1 _ _ l1 t241 t242 t245 _ ?side1 ?side2 ?side3 ?side4 A12.out).mono ?_); (case side1 => exact (Kd.C_below HR0_1.out HB.out)); (case side2 => exact HC0_1.out); (case side3 => exact (Kd.C_below HR1.out HB.out)); (case side4 => exact HC1.out); rintro e w15 ⟨v243, rfl, ho0, hb⟩; refine ⟨_, rfl, ?_⟩; have n0_ := Aside0.mk (Kd.R_lower ho0 (below_size (by repeat (with_reducible first | exact HB.out | apply pw_below_drewN | apply below_drew1 | refine below_set ?_ GE239.out)))); have n1_ := Aside0.mk (blk_below BK239.out hb); have n2_ := Aside0.mk (below_step (by repeat (with_reducible first | exact HB.out | apply pw_below_drewN | apply below_drew1 | refine below_set ?_ GE239.out)) hb); clear BK239; clear HB; have HO244 := n0_; have BK239 := n1_; have HB := n2_; clear n0_ n1_ n2_; (try clear hb); (try clear hb2); (try clear hk); (try clear hi); (try clear ho0)) | ((with_reducible refine gate_dst (N := 5) rfl ?_); (try (refine gate_guard (by rfl) ?_; dsimp only)); refine box_event ?hg (N := 5) ?hd (cs := #[.int .i64 0, .slice none 0 0]) (t := 24) ?hr ?_; (case hd => rfl); (case hg => rfl); (case hr => first | (go_simp; done) | (go_simp; rfl)); intro gb246 hg w16 hbox hb; have n0_ := Aside0.mk (Kd.R_below (HO244.out) hb); have n1_ := Aside0.mk (blk_below BK239.out hb); have n2_ := Aside0.mk (below_step (by repeat (with_reducible first | exact HB.out | apply pw_below_drewN | apply below_drew1 | refine below_set ?_ GE239.out)) hb); have n3_ := Aside0.mk (hbox); have n4_ := Aside0.mk ((by rw [hg]; exact (below_size (by repeat (with_reducible first | exact HB.out | apply pw_below_drewN | apply below_drew1 | refine below_set ?_ GE239.out))) : w.heap.size ≤ gb246)); have n5_ := Aside0.mk ((by rw [hg]; exact (below_size (by repeat (with_reducible first | exact HB.out | apply pw_below_drewN | apply below_drew1 | refine below_set ?_ GE239.out))) : w.heap.size ≤ gb246)); have n6_ := Aside0.mk ((by rw [hg]; exact Nat.ne_of_lt (blk_lt BK239.out) : gb239 ≠ gb246)); have n7_ := Aside0.mk ((by rw [hg]; exact Nat.ne_of_gt (blk_lt BK239.out) : gb246 ≠ gb239)); clear HO244; clear BK239; clear HB; have HO244 := n0_; have BK239 := n1_; have HB := n2_; have BK246 := n3_; have GW246 := n4_; have GE246 := n5_; have NB239_246 := n6_; have NB246_239 := n7_; clear n0_ n1_ n2_ n3_ n4_ n5_ n6_ n7_; clear hb hbox hg; have hnb17 := NB246_239.out; have hnc17 := NB239_246.out; have hcz18_0 : w16.cell? ⟨gb246, 0, none⟩ = some (.int .i64 0) := (blk_cell BK246.out 0).trans rfl; have hcz18_1 : w16.cell? ⟨gb246, 1, none⟩ = some (.slice none 0 0) := (blk_cell BK246.out 1).trans rfl; have hfz18_0 := blk_frozen BK246.out 0; have hfz18_1 := blk_frozen BK246.out 1; obtain ⟨Ao19, co19, eo19⟩ := Kd.R_slice HO244.out; subst eo19))
          go_loopg [7, 8] kj2 (fun kq v7 v8 w' => ∃ (x7_2 : Int) (x8_2 : Int), v7 = .int .i64 x7_2 ∧ v8 = .int .i64 x8_2 ∧ Aside0 (watchmanlaw21_PostOnly.l0 kq l1 x7_2 x8_2 a0_0 l0_1 t241 t242 = some r) ∧ Aside0 (kq ≤ kj2) ∧ Aside0 (Kd.R k35 35 w' w.heap.size (fun _ => True) (.slice Ao19 t242.length co19) t242) ∧ Aside0 (w'.heap[gb239]? = some (.cells #[.int .i64 a0_0, (.slice A0_1 l0_1.length c0_1)] 24 (0, 0))) ∧ Aside0 (w'.heap[gb246]? = some (.cells #[.int .i64 t241, (.slice Ao19 t242.length co19)] 24 (0, 0))) ∧ Aside0 (Below w.heap.size w w'))
          case atStart => exact ⟨(0), (0), (by first | rfl | (simp; done) | (simp [*]; done)), (by first | rfl | (simp; done) | (simp [*]; done)), H', ⟨Nat.le_refl _⟩, ⟨by (with_reducible repeat (first | apply Kd.R_alloc | apply Kd.R_drewN | apply Kd.R_drew)); exact Kd.R_mono (Kd.R_far (p := ⟨gb246, 1, none⟩) (Kd.R_far (p := ⟨gb246, 0, none⟩) (Kd.R_types HO244.out BK246.out (by decide)) (fun _ hk => hk.2) (.int .i64 t241)) (fun _ hk => hk.2) (.slice Ao19 t242.length co19)) (fun _ hk => trivial)⟩, ⟨by (with_reducible repeat (first | refine blk_drewN ?_ _ | refine blk_drew ?_ | refine blk_alloc ?_ _)); refine blk_far ?_ NB239_246.out _; (with_reducible repeat (first | refine blk_drewN ?_ _ | refine blk_drew ?_ | refine blk_alloc ?_ _)); refine blk_far ?_ NB239_246.out _; (with_reducible repeat (first | refine blk_drewN ?_ _ | refine blk_drew ?_ | refine blk_alloc ?_ _)); exact BK239.out⟩, ⟨by (with_reducible repeat (first | refine blk_drewN ?_ _ | refine blk_drew ?_ | refine blk_alloc ?_ _)); refine blk_put (cs := #[.int .i64 t241, .slice none 0 0]) ?_ 1 _ rfl; (with_reducible repeat (first | refine blk_drewN ?_ _ | refine blk_drew ?_ | refine blk_alloc ?_ _)); refine blk_put (cs := #[.int .i64 0, .slice none 0 0]) ?_ 0 _ rfl; (with_reducible repeat (first | refine blk_drewN ?_ _ | refine blk_drew ?_ | refine blk_alloc ?_ _)); exact BK246.out⟩, ⟨by repeat (with_reducible first | exact HB.out | apply pw_below_drewN | apply below_drew1 | refine below_set ?_ GE239.out | refine below_set ?_ GE246.out)⟩⟩
          case round =>
            clear H'
            try clear c1
            try clear p2
            try clear c6
            try clear c8
            try clear c11
            try clear c13
            try clear c13b0
            try clear c13b1
            try clear c17
            try clear hcz14_0
            try clear hcz14_1
            try clear hcz18_0
            try clear hcz18_1
            try clear hcz7_0
            try clear hcz7_1
            try clear hcz9_0
            try clear hcz9_1
            try clear hfz14_0
            try clear hfz14_1
            try clear hfz18_0
            try clear hfz18_1
            try clear hfz7_0
            try clear hfz7_1
            try clear hfz9_0
            try clear hfz9_1
            try clear p2
            obtain ⟨x7_2, x8_2, rfl, rfl, HA, HK2, HO_247001, BK239, BK246, HB⟩ := hrel
            cases gk with
            | zero => exact absurd HA.out (by simp [watchmanlaw21_PostOnly.l0])
            | succ k2 =>
              have H := HA.out
              clear HA
              simp only [watchmanlaw21_PostOnly.l0] at H
              by_cases c20 : x8_2 ≤ 20
              · rw [if_pos c20] at H
                have c20b0 : decide (x8_2 ≤ 20) = true := decide_eq_true c20
                clear c20
                have H' := Aside0.mk H
                clear H
                go_wp2
                go_loopg [9, 10] k2 (fun kq v9 v10 w' => ∃ (x9_3 : Bool) (x10_3 : Int), v9 = .bool x9_3 ∧ v10 = .int .i64 x10_3 ∧ Aside0 (watchmanlaw21_PostOnly.l1 kq l1 x7_2 x8_2 x9_3 x10_3 a0_0 l0_1 t241 t242 = some r) ∧ Aside0 (kq ≤ k2) ∧ Aside0 (Kd.R k35 35 w' w.heap.size (fun _ => True) (.slice Ao19 t242.length co19) t242) ∧ Aside0 (w'.heap[gb239]? = some (.cells #[.int .i64 a0_0, (.slice A0_1 l0_1.length c0_1)] 24 (0, 0))) ∧ Aside0 (w'.heap[gb246]? = some (.cells #[.int .i64 t241, (.slice Ao19 t242.length co19)] 24 (0, 0))) ∧ Aside0 (Below w.heap.size w w'))
                case atStart => exact ⟨(false), (0), (by first | rfl | (simp; done) | (simp [*]; done)), (by first | rfl | (simp; done) | (simp [*]; done)), H', ⟨Nat.le_refl _⟩, ⟨by (with_reducible repeat (first | apply Kd.R_alloc | apply Kd.R_drewN | apply Kd.R_drew)); exact HO_247001.out⟩, ⟨by (with_reducible repeat (first | refine blk_drewN ?_ _ | refine blk_drew ?_ | refine blk_alloc ?_ _)); exact BK239.out⟩, ⟨by (with_reducible repeat (first | refine blk_drewN ?_ _ | refine blk_drew ?_ | refine blk_alloc ?_ _)); exact BK246.out⟩, ⟨by repeat (with_reducible first | exact HB.out | apply pw_below_drewN | apply below_drew1 | refine below_set ?_ GE239.out | refine below_set ?_ GE246.out)⟩⟩
                case round =>
                  clear H'
                  try clear c1
                  try clear c2
                  try clear p2
                  try clear c6
                  try clear c8
                  try clear c11
                  try clear c13
                  try clear c13b0
                  try clear c13b1
                  try clear c17
                  try clear c20
                  try clear c20b0
                  try clear hcz14_0
                  try clear hcz14_1
                  try clear hcz18_0
                  try clear hcz18_1
                  try clear hcz7_0
                  try clear hcz7_1
                  try clear hcz9_0
                  try clear hcz9_1
                  try clear hfz14_0
                  try clear hfz14_1
                  try clear hfz18_0
                  try clear hfz18_1
                  try clear hfz7_0
                  try clear hfz7_1
                  try clear hfz9_0
                  try clear hfz9_1
                  try clear p2
                  obtain ⟨x9_3, x10_3, rfl, rfl, HA, HK3, HO_247001, BK239, BK246, HB⟩ := hrel
                  cases gk with
                  | zero => exact absurd HA.out (by simp [watchmanlaw21_PostOnly.l1])
                  | succ k3 =>
                    have H := HA.out
                    clear HA
                    simp only [watchmanlaw21_PostOnly.l1] at H
                    by_cases c21 : x10_3 < (l1.length : Int)
                    · rw [if_pos c21] at H
                      have c21b0 : decide (x10_3 < (l1.length : Int)) = true := decide_eq_true c21
                      clear c21
                      by_cases c22 : x9_3 = true
                      · subst c22
                        have H1 : (watchmanlaw21_PostOnly.l1 k3 l1 x7_2 x8_2 true (wrap64 (x10_3 + 1)) a0_0 l0_1 t241 t242) = some r := by rw [if_pos rfl] at H; exact H
                        clear H
                        have H := H1
                        clear H1
                        have H' := Aside0.mk H
                        clear H
                        go_wp2
                        go_roundg k3
                        case measure => have := HJ2.out; have := HK2.out; have := HK3.out; omega
                        case rel => exact ⟨(true), (wrap64 (x10_3 + 1)), (by first | rfl | (simp; done) | (simp [*]; done)), (by first | rfl | (simp; done) | (simp [*]; done)), H', ⟨by have := HJ2.out; have := HK2.out; have := HK3.out; omega⟩, ⟨by (with_reducible repeat (first | apply Kd.R_alloc | apply Kd.R_drewN | apply Kd.R_drew)); exact HO_247001.out⟩, ⟨by (with_reducible repeat (first | refine blk_drewN ?_ _ | refine blk_drew ?_ | refine blk_alloc ?_ _)); exact BK239.out⟩, ⟨by (with_reducible repeat (first | refine blk_drewN ?_ _ | refine blk_drew ?_ | refine blk_alloc ?_ _)); exact BK246.out⟩, ⟨by repeat (with_reducible first | exact HB.out | apply pw_below_drewN | apply below_drew1 | refine below_set ?_ GE239.out | refine below_set ?_ GE246.out)⟩⟩
                      · replace c22 := Bool.eq_false_iff.mpr c22
                        subst c22
                        have H1 : (if 0 ≤ x10_3 then (watchmanlaw21_PostOnly.l1 k3 l1 x7_2 x8_2 ((rd l1 x10_3) == x8_2) (wrap64 (x10_3 + 1)) a0_0 l0_1 t241 t242) else (none)) = some r := by rw [if_neg (show ¬ (false = true) by decide)] at H; exact H
                        clear H
                        have H := H1
                        clear H1
                        by_cases c23 : 0 ≤ x10_3
                        · rw [if_pos c23] at H
                          have c23b0 : decide (0 ≤ x10_3) = true := decide_eq_true c23
                          clear c23
                          have H' := Aside0.mk H
                          clear H
                          have p249 : 0 ≤ (x10_3 : Int) := of_decide_eq_true (by first | (with_reducible assumption) | assumption)
                          have q249 : x10_3 < (l1.length : Int) := of_decide_eq_true (by first | (with_reducible assumption) | assumption)
                          obtain ⟨ad249, e249, hx249_0⟩ := Kd.at_int HR1.out x10_3 p249 q249
                          cases e249
                          replace hx249_0 := (HB.out.cell (World.block_lt_of_cell? w _ hx249_0)).trans hx249_0
                          replace p249 := eq_true p249
                          replace q249 := eq_true q249
                          go_wp2
                          go_roundg k3
                          case measure => have := HJ2.out; have := HK2.out; have := HK3.out; omega
                          case rel => exact ⟨(((rd l1 x10_3) == x8_2)), (wrap64 (x10_3 + 1)), (by first | rfl | (simp; done) | (simp [*]; done)), (by first | rfl | (simp; done) | (simp [*]; done)), H', ⟨by have := HJ2.out; have := HK2.out; have := HK3.out; omega⟩, ⟨by (with_reducible repeat (first | apply Kd.R_alloc | apply Kd.R_drewN | apply Kd.R_drew)); exact HO_247001.out⟩, ⟨by (with_reducible repeat (first | refine blk_drewN ?_ _ | refine blk_drew ?_ | refine blk_alloc ?_ _)); exact BK239.out⟩, ⟨by (with_reducible repeat (first | refine blk_drewN ?_ _ | refine blk_drew ?_ | refine blk_alloc ?_ _)); exact BK246.out⟩, ⟨by repeat (with_reducible first | exact HB.out | apply pw_below_drewN | apply below_drew1 | refine below_set ?_ GE239.out | refine below_set ?_ GE246.out)⟩⟩
                        · rw [if_neg c23] at H
                          exact absurd H (by simp)
                    · rw [if_neg c21] at H
                      have c21b0 : decide (x10_3 < (l1.length : Int)) = false := decide_eq_false c21
                      clear c21
                      replace H := Option.bind_eq_some_iff.mp H
                      obtain ⟨t250, A240, H⟩ := H
                      replace H : ((post_To.f a0_0 l0_1 x8_2).bind fun t253 => (if x9_3 = true then ((watchmanref21_SameLetters.f k3 t250 t253).bind fun t256 => (if t256 = true then (watchmanlaw21_PostOnly.j3 k3 l1 x7_2 x8_2 t250 false a0_0 l0_1 t241 t242) else (none))) else (watchmanlaw21_PostOnly.j3 k3 l1 x7_2 x8_2 t250 (decide ((t250.length : Int) > 0)) a0_0 l0_1 t241 t242))) = some r := H
                      have A24 := Aside0.mk A240
                      clear A240
                      replace H := Option.bind_eq_some_iff.mp H
                      obtain ⟨t253, A250, H⟩ := H
                      replace H : (if x9_3 = true then ((watchmanref21_SameLetters.f k3 t250 t253).bind fun t256 => (if t256 = true then (watchmanlaw21_PostOnly.j3 k3 l1 x7_2 x8_2 t250 false a0_0 l0_1 t241 t242) else (none))) else (watchmanlaw21_PostOnly.j3 k3 l1 x7_2 x8_2 t250 (decide ((t250.length : Int) > 0)) a0_0 l0_1 t241 t242)) = some r := H
                      have A25 := Aside0.mk A250
                      clear A250
                      have HC26 := Aside0.mk H
                      clear H
                      have hnb27 := NB246_239.out
                      have hnc27 := NB239_246.out
                      have hcz28_0 : wr.cell? ⟨gb246, 0, none⟩ = some (.int .i64 t241) := (blk_cell BK246.out 0).trans rfl
                      have hcz28_1 : wr.cell? ⟨gb246, 1, none⟩ = some (.slice Ao19 t242.length co19) := (blk_cell BK246.out 1).trans rfl
                      have hfz28_0 := blk_frozen BK246.out 0
                      have hfz28_1 := blk_frozen BK246.out 1
                      go_upto_region 17 with (first | ((with_reducible refine gate_callee (f := 19) rfl ?_); refine goesL_ (some 55) rfl rfl Try.func19 (by kernel_rfl) rfl #[.agg #[.int .i64 t241, .slice Ao19 t242.length co19], .int .i64 x8_2] rfl (by (try simp only [List.map_toArray, List.map_cons, List.map_nil]); first | done | rfl | (simp only [List.length_drop, List.length_take]; rfl)) ?_; (with_reducible refine (post_To.calls t241 _ _ t242 x8_2 t250 _ ?side1 ?side2 A24.out).mono ?_); (case side1 => repeat (first | exact (Kd.R_reads' HO_247001.out).2.2 | (with_reducible refine Kd.C_alloc ?_ _) | (with_reducible refine Kd.C_drewN ?_ _) | (with_reducible refine Kd.C_drew ?_))); (case side2 => exact (Kd.R_reads' HO_247001.out).2.1); (try clear A24); rintro e w29 ⟨v251, rfl, ho0, hb⟩; refine ⟨_, rfl, ?_⟩; have n0_ := Aside0.mk (Kd.R_elder' (HO_247001.out) (Kd.R_base ho0) hb); have n1_ := Aside0.mk (Kd.R_lower (Kd.R_new' ho0 (Kd.R_lt (HO_247001.out))) (below_size (by repeat (with_reducible first | exact HB.out | apply pw_below_drewN | apply below_drew1 | refine below_set ?_ GE239.out | refine below_set ?_ GE246.out)))); have n2_ := Aside0.mk (blk_below BK239.out hb); have n3_ := Aside0.mk (blk_below BK246.out hb); have n4_ := Aside0.mk (below_step (by repeat (with_reducible first | exact HB.out | apply pw_below_drewN | apply below_drew1 | refine below_set ?_ GE239.out | refine below_set ?_ GE246.out)) hb); clear HO_247001; clear BK239; clear BK246; clear HB; have HO_247001 := n0_; have HO252 := n1_; have BK239 := n2_; have BK246 := n3_; have HB := n4_; clear n0_ n1_ n2_ n3_ n4_; (try clear hb); (try clear hb2); (try clear hk); (try clear hi); (try clear ho0); have hcz30_0 : w29.cell? ⟨gb239, 0, none⟩ = some (.int .i64 a0_0) := (blk_cell BK239.out 0).trans rfl; have hcz30_1 : w29.cell? ⟨gb239, 1, none⟩ = some (.slice A0_1 l0_1.length c0_1) := (blk_cell BK239.out 1).trans rfl; have hfz30_0 := blk_frozen BK239.out 0; have hfz30_1 := blk_frozen BK239.out 1) | ((with_reducible refine gate_callee (f := 19) rfl ?_); refine goesL_ (some 58) rfl rfl Try.func19 (by kernel_rfl) rfl #[.agg #[.int .i64 a0_0, .slice A0_1 l0_1.length c0_1], .int .i64 x8_2] rfl (by (try simp only [List.map_toArray, List.map_cons, List.map_nil]); first | done | rfl | (simp only [List.length_drop, List.length_take]; rfl)) ?_; (with_reducible refine (post_To.calls a0_0 _ _ l0_1 x8_2 t253 _ ?side1 ?side2 A25.out).mono ?_); (case side1 => exact (Kd.C_below HR0_1.out HB.out)); (case side2 => exact HC0_1.out); (try clear A25); rintro e w31 ⟨v254, rfl, ho0, hb⟩; refine ⟨_, rfl, ?_⟩; have n0_ := Aside0.mk (Kd.R_elder' (HO_247001.out) (Kd.R_base ho0) hb); have n1_ := Aside0.mk (Kd.R_elder' (HO252.out) (Kd.R_base ho0) hb); have n2_ := Aside0.mk (Kd.R_lower (Kd.R_new' (Kd.R_new' ho0 (Kd.R_lt (HO_247001.out))) (Kd.R_lt (HO252.out))) (below_size (by repeat (with_reducible first | exact HB.out | apply pw_below_drewN | apply below_drew1 | refine below_set ?_ GE239.out | refine below_set ?_ GE246.out)))); have n3_ := Aside0.mk (blk_below BK239.out hb); have n4_ := Aside0.mk (blk_below BK246.out hb); have n5_ := Aside0.mk (below_step (by repeat (with_reducible first | exact HB.out | apply pw_below_drewN | apply below_drew1 | refine below_set ?_ GE239.out | refine below_set ?_ GE246.out)) hb); clear HO_247001; clear HO252; clear BK239; clear BK246; clear HB; have HO_247001 := n0_; have HO252 := n1_; have HO255 := n2_; have BK239 := n3_; have BK246 := n4_; have HB := n5_; clear n0_ n1_ n2_ n3_ n4_ n5_; (try clear hb); (try clear hb2); (try clear hk); (try clear hi); (try clear ho0)))
                      (try simp only [Act.put, List.setIfInBounds_toArray, List.set_cons_zero, List.set_cons_succ])
                      go_cut [74] (fun v74 wc => ∃ (kq : Nat) (x74_25 : Bool), v74 = .bool x74_25 ∧ Aside0 (watchmanlaw21_PostOnly.j3 kq l1 x7_2 x8_2 t250 x74_25 a0_0 l0_1 t241 t242 = some r) ∧ Aside0 (kq ≤ k3) ∧ Aside0 (Kd.R k35 35 wc w.heap.size (fun k_ => some k_ ≠ ((.slice Ao19 t242.length co19) : Value).ownBlock) v251 t250) ∧ Aside0 (Kd.R k35 35 wc w.heap.size (fun k_ => some k_ ≠ (v251 : Value).ownBlock) (.slice Ao19 t242.length co19) t242) ∧ Aside0 (wc.heap[gb239]? = some (.cells #[.int .i64 a0_0, (.slice A0_1 l0_1.length c0_1)] 24 (0, 0))) ∧ Aside0 (wc.heap[gb246]? = some (.cells #[.int .i64 t241, (.slice Ao19 t242.length co19)] 24 (0, 0))) ∧ Aside0 (Below w.heap.size w wc))
                      case first =>
                        have H := HC26.out
                        clear HC26
                        by_cases c32 : x9_3 = true
                        · subst c32
                          have H1 : ((watchmanref21_SameLetters.f k3 t250 t253).bind fun t256 => (if t256 = true then (watchmanlaw21_PostOnly.j3 k3 l1 x7_2 x8_2 t250 false a0_0 l0_1 t241 t242) else (none))) = some r := by rw [if_pos rfl] at H; exact H
                          clear H
                          have H := H1
                          clear H1
                          replace H := Option.bind_eq_some_iff.mp H
                          obtain ⟨t256, A330, H⟩ := H
                          replace H : (if t256 = true then (watchmanlaw21_PostOnly.j3 k3 l1 x7_2 x8_2 t250 false a0_0 l0_1 t241 t242) else (none)) = some r := H
                          have A33 := Aside0.mk A330
                          clear A330
                          by_cases c34 : t256 = true
                          · subst c34
                            have H1 : (watchmanlaw21_PostOnly.j3 k3 l1 x7_2 x8_2 t250 false a0_0 l0_1 t241 t242) = some r := by rw [if_pos rfl] at H; exact H
                            clear H
                            have H := H1
                            clear H1
                            have H' := Aside0.mk H
                            clear H
                            obtain ⟨Ao35, co35, eo35⟩ := Kd.R_slice HO252.out
                            subst eo35
                            obtain ⟨Ao36, co36, eo36⟩ := Kd.R_slice HO255.out
                            subst eo36
                            go_wp2_with (first | (go_at_call 21; (with_reducible refine (watchmanref21_SameLetters.calls k3 _ _ t250 _ _ t253 true _ ?side1 ?side2 ?side3 ?side4 A33.out).mono ?_); (case side1 => repeat (first | exact (Kd.R_reads' HO252.out).2.2 | (with_reducible refine Kd.C_alloc ?_ _) | (with_reducible refine Kd.C_drewN ?_ _) | (with_reducible refine Kd.C_drew ?_))); (case side2 => exact (Kd.R_reads' HO252.out).2.1); (case side3 => repeat (first | exact (Kd.R_reads' HO255.out).2.2 | (with_reducible refine Kd.C_alloc ?_ _) | (with_reducible refine Kd.C_drewN ?_ _) | (with_reducible refine Kd.C_drew ?_))); (case side4 => exact (Kd.R_reads' HO255.out).2.1); rintro e w' ⟨rfl, ⟨nd, rfl⟩⟩))
                            go_meet
                            case rel => exact ⟨_, (false), (by first | rfl | (simp; done) | (simp [*]; done)), H', ⟨by have := HJ2.out; have := HK2.out; have := HK3.out; first | omega | exact Nat.le_refl _⟩, ⟨by (with_reducible repeat (first | apply Kd.R_alloc | apply Kd.R_drewN | apply Kd.R_drew)); exact Kd.R_mono HO252.out (fun _ hk => hk.1.2)⟩, ⟨by (with_reducible repeat (first | apply Kd.R_alloc | apply Kd.R_drewN | apply Kd.R_drew)); exact Kd.R_mono HO_247001.out (fun _ hk => hk.1.2)⟩, ⟨by (with_reducible repeat (first | refine blk_drewN ?_ _ | refine blk_drew ?_ | refine blk_alloc ?_ _)); exact BK239.out⟩, ⟨by (with_reducible repeat (first | refine blk_drewN ?_ _ | refine blk_drew ?_ | refine blk_alloc ?_ _)); exact BK246.out⟩, ⟨by repeat (with_reducible first | exact HB.out | apply pw_below_drewN | apply below_drew1 | refine below_set ?_ GE239.out | refine below_set ?_ GE246.out)⟩⟩
                          · replace c34 := Bool.eq_false_iff.mpr c34
                            subst c34
                            have H1 : (none) = some r := by rw [if_neg (show ¬ (false = true) by decide)] at H; exact H
                            clear H
                            have H := H1
                            clear H1
                            exact absurd H (by simp)
                        · replace c32 := Bool.eq_false_iff.mpr c32
                          subst c32
                          have H1 : (watchmanlaw21_PostOnly.j3 k3 l1 x7_2 x8_2 t250 (decide ((t250.length : Int) > 0)) a0_0 l0_1 t241 t242) = some r := by rw [if_neg (show ¬ (false = true) by decide)] at H; exact H
                          clear H
                          have H := H1
                          clear H1
                          have H' := Aside0.mk H
                          clear H
                          obtain ⟨Ao37, co37, eo37⟩ := Kd.R_slice HO252.out
                          subst eo37
                          go_wp2
                          go_meet
                          case rel => exact ⟨_, (decide ((t250.length : Int) > 0)), (by first | rfl | (simp; done) | (simp [*]; done)), H', ⟨by have := HJ2.out; have := HK2.out; have := HK3.out; first | omega | exact Nat.le_refl _⟩, ⟨by (with_reducible repeat (first | apply Kd.R_alloc | apply Kd.R_drewN | apply Kd.R_drew)); exact Kd.R_mono HO252.out (fun _ hk => hk.1.2)⟩, ⟨by (with_reducible repeat (first | apply Kd.R_alloc | apply Kd.R_drewN | apply Kd.R_drew)); exact Kd.R_mono HO_247001.out (fun _ hk => hk.1.2)⟩, ⟨by (with_reducible repeat (first | refine blk_drewN ?_ _ | refine blk_drew ?_ | refine blk_alloc ?_ _)); exact BK239.out⟩, ⟨by (with_reducible repeat (first | refine blk_drewN ?_ _ | refine blk_drew ?_ | refine blk_alloc ?_ _)); exact BK246.out⟩, ⟨by repeat (with_reducible first | exact HB.out | apply pw_below_drewN | apply below_drew1 | refine below_set ?_ GE239.out | refine below_set ?_ GE246.out)⟩⟩
                      case rest =>
                        clear HC26
                        try clear c1
                        try clear c2
                        try clear p2
                        try clear q2
                        try clear hx2
                        try clear c3
                        try clear c6
                        try clear p6
                        try clear c8
                        try clear c11
                        try clear c13
                        try clear c13b0
                        try clear c13b1
                        try clear c17
                        try clear c19
                        try clear c20
                        try clear c20b0
                        try clear c21
                        try clear c21b0
                        try clear c22
                        try clear c23
                        try clear c23b0
                        try clear p24
                        try clear q24
                        try clear hx24
                        try clear c27
                        try clear c32
                        try clear c34
                        try clear hcz14_0
                        try clear hcz14_1
                        try clear hcz18_0
                        try clear hcz18_1
                        try clear hcz28_0
                        try clear hcz28_1
                        try clear hcz30_0
                        try clear hcz30_1
                        try clear hcz7_0
                        try clear hcz7_1
                        try clear hcz9_0
                        try clear hcz9_1
                        try clear hfz14_0
                        try clear hfz14_1
                        try clear hfz18_0
                        try clear hfz18_1
                        try clear hfz28_0
                        try clear hfz28_1
                        try clear hfz30_0
                        try clear hfz30_1
                        try clear hfz7_0
                        try clear hfz7_1
                        try clear hfz9_0
                        try clear hfz9_1
                        try clear hx249_0
                        try clear p2
                        try clear p249
                        try clear q249
                        obtain ⟨kq, x74_25, rfl, HA, HJ25, HO_11, HO_247001, BK239, BK246, HB⟩ := hcut
                        cases kq with
                        | zero => exact absurd HA.out (by simp [watchmanlaw21_PostOnly.j3])
                        | succ kj25 =>
                          have H := HA.out
                          clear HA
                          simp only [watchmanlaw21_PostOnly.j3] at H
                          by_cases c38 : x74_25 = true
                          · subst c38
                            have H1 : (none) = some r := by rw [if_pos rfl] at H; exact H
                            clear H
                            have H := H1
                            clear H1
                            exact absurd H (by simp)
                          · replace c38 := Bool.eq_false_iff.mpr c38
                            subst c38
                            have H1 : (watchmanlaw21_PostOnly.l0 kj25 l1 (wrap64 (x7_2 + (t250.length : Int))) (wrap64 (x8_2 + 1)) a0_0 l0_1 t241 t242) = some r := by rw [if_neg (show ¬ (false = true) by decide)] at H; exact H
                            clear H
                            have H := H1
                            clear H1
                            have H' := Aside0.mk H
                            clear H
                            obtain ⟨Ao39, co39, eo39⟩ := Kd.R_slice HO_11.out
                            subst eo39
                            go_wp2
                            go_roundg kj25
                            case measure => have := HJ2.out; have := HK2.out; have := HK3.out; have := HJ25.out; omega
                            case rel => exact ⟨(wrap64 (x7_2 + (t250.length : Int))), (wrap64 (x8_2 + 1)), (by first | rfl | (simp; done) | (simp [*]; done)), (by first | rfl | (simp; done) | (simp [*]; done)), H', ⟨by have := HJ2.out; have := HK2.out; have := HK3.out; have := HJ25.out; omega⟩, ⟨by (with_reducible repeat (first | apply Kd.R_alloc | apply Kd.R_drewN | apply Kd.R_drew)); exact Kd.R_mono HO_247001.out (fun _ hk => trivial)⟩, ⟨by (with_reducible repeat (first | refine blk_drewN ?_ _ | refine blk_drew ?_ | refine blk_alloc ?_ _)); exact BK239.out⟩, ⟨by (with_reducible repeat (first | refine blk_drewN ?_ _ | refine blk_drew ?_ | refine blk_alloc ?_ _)); exact BK246.out⟩, ⟨by repeat (with_reducible first | exact HB.out | apply pw_below_drewN | apply below_drew1 | refine below_set ?_ GE239.out | refine below_set ?_ GE246.out)⟩⟩
              · rw [if_neg c20] at H
                have c20b0 : decide (x8_2 ≤ 20) = false := decide_eq_false c20
                clear c20
                replace H := Option.bind_eq_some_iff.mp H
                obtain ⟨t257, A400, H⟩ := H
                replace H : (if t257 = true then (if x7_2 = (t242.length : Int) then (if t241 = a0_0 then ((post_Is.f k2 t241 t242).bind fun t258 => (some t258)) else (none)) else (none)) else (none)) = some r := H
                have A40 := Aside0.mk A400
                clear A400
                by_cases c41 : t257 = true
                · subst c41
                  have H1 : (if x7_2 = (t242.length : Int) then (if t241 = a0_0 then ((post_Is.f k2 t241 t242).bind fun t258 => (some t258)) else (none)) else (none)) = some r := by rw [if_pos rfl] at H; exact H
                  clear H
                  have H := H1
                  clear H1
                  by_cases c42 : x7_2 = (t242.length : Int)
                  · rw [if_pos c42] at H
                    have c42b0 : (x7_2 == (t242.length : Int)) = true := beq_iff_eq.mpr c42
                    have c42b1 : (x7_2 != (t242.length : Int)) = false := bne_eq_false_iff_eq.mpr c42
                    clear c42
                    by_cases c43 : t241 = a0_0
                    · rw [if_pos c43] at H
                      have c43b0 : (t241 == a0_0) = true := beq_iff_eq.mpr c43
                      have c43b1 : (t241 != a0_0) = false := bne_eq_false_iff_eq.mpr c43
                      clear c43
                      replace H := Option.bind_eq_some_iff.mp H
                      obtain ⟨t258, A440, H⟩ := H
                      replace H : (some t258) = some r := H
                      have A44 := Aside0.mk A440
                      clear A440
                      obtain rfl := Option.some.inj H
                      go_wp2_with (first | ((with_reducible refine gate_callee (f := 24) rfl ?_); refine goesL_ (some 79) rfl rfl Try.func24 (by kernel_rfl) rfl #[] rfl (by (try simp only [List.map_toArray, List.map_cons, List.map_nil]); first | done | rfl | (simp only [List.length_drop, List.length_take]; rfl)) ?_; (with_reducible refine (watchmanlaw21_posted.calls k2  true _ A40.out).mono ?_); rintro e w45 ⟨rfl, hb⟩; refine ⟨_, rfl, ?_⟩; have n0_ := Aside0.mk (Kd.R_below (HO_247001.out) hb); have n1_ := Aside0.mk (blk_below BK239.out hb); have n2_ := Aside0.mk (blk_below BK246.out hb); have n3_ := Aside0.mk (below_step (by repeat (with_reducible first | exact HB.out | apply pw_below_drewN | apply below_drew1 | refine below_set ?_ GE239.out | refine below_set ?_ GE246.out)) hb); clear HO_247001; clear BK239; clear BK246; clear HB; have HO_247001 := n0_; have BK239 := n1_; have BK246 := n2_; have HB := n3_; clear n0_ n1_ n2_ n3_; (try clear hb); (try clear hb2); (try clear hk); (try clear hi); have hnb46 := NB246_239.out; have hnc46 := NB239_246.out; have hcz47_0 : w45.cell? ⟨gb246, 0, none⟩ = some (.int .i64 t241) := (blk_cell BK246.out 0).trans rfl; have hcz47_1 : w45.cell? ⟨gb246, 1, none⟩ = some (.slice Ao19 t242.length co19) := (blk_cell BK246.out 1).trans rfl; have hfz47_0 := blk_frozen BK246.out 0; have hfz47_1 := blk_frozen BK246.out 1; have hcz48_0 : w45.cell? ⟨gb239, 0, none⟩ = some (.int .i64 a0_0) := (blk_cell BK239.out 0).trans rfl; have hcz48_1 : w45.cell? ⟨gb239, 1, none⟩ = some (.slice A0_1 l0_1.length c0_1) := (blk_cell BK239.out 1).trans rfl; have hfz48_0 := blk_frozen BK239.out 0; have hfz48_1 := blk_frozen BK239.out 1) | (go_at_call 25; (with_reducible refine (post_Is.calls k2 t241 _ _ t242 t258 _ ?side1 ?side2 A44.out).mono ?_); (case side1 => repeat (first | exact (Kd.R_reads' HO_247001.out).2.2 | (with_reducible refine Kd.C_alloc ?_ _) | (with_reducible refine Kd.C_drewN ?_ _) | (with_reducible refine Kd.C_drew ?_))); (case side2 => exact (Kd.R_reads' HO_247001.out).2.1); rintro e w49 ⟨rfl, hb⟩; have n0_ := Aside0.mk (Kd.R_below (HO_247001.out) hb); have n1_ := Aside0.mk (blk_below BK239.out hb); have n2_ := Aside0.mk (blk_below BK246.out hb); have n3_ := Aside0.mk (below_step (by repeat (with_reducible first | exact HB.out | apply pw_below_drewN | apply below_drew1 | refine below_set ?_ GE239.out | refine below_set ?_ GE246.out)) hb); clear HO_247001; clear BK239; clear BK246; clear HB; have HO_247001 := n0_; have BK239 := n1_; have BK246 := n2_; have HB := n3_; clear n0_ n1_ n2_ n3_; (try clear hb); (try clear hb2); (try clear hk); (try clear hi)))
                      go_ret
                      exact ⟨by first | rfl | (simp [errW_none, errW_some] <;> rfl) | (simp [*, errW_none, errW_some] <;> rfl), by repeat (with_reducible first | exact HB.out | apply pw_below_drewN | apply below_drew1 | refine below_set ?_ GE239.out | refine below_set ?_ GE246.out)⟩
                    · rw [if_neg c43] at H
                      exact absurd H (by simp)
                  · rw [if_neg c42] at H
                    exact absurd H (by simp)
                · replace c41 := Bool.eq_false_iff.mpr c41
                  subst c41
                  have H1 : (none) = some r := by rw [if_neg (show ¬ (false = true) by decide)] at H; exact H
                  clear H
                  have H := H1
                  clear H1
                  exact absurd H (by simp)
        · rw [if_neg c13] at H
          have c13b0 : (t245 == 0) = false := beq_eq_false_iff_ne.mpr c13
          have c13b1 : (t245 != 0) = true := bne_iff_ne.mpr c13
          replace H := Option.bind_eq_some_iff.mp H
          obtain ⟨t247, A500, H⟩ := H
          replace H : (if t247 = true then ((post_Is.f kj2 a0_0 l0_1).bind fun t248 => (some (!t248))) else (none)) = some r := H
          have A50 := Aside0.mk A500
          clear A500
          by_cases c51 : t247 = true
          · subst c51
            have H1 : ((post_Is.f kj2 a0_0 l0_1).bind fun t248 => (some (!t248))) = some r := by rw [if_pos rfl] at H; exact H
            clear H
            have H := H1
            clear H1
            replace H := Option.bind_eq_some_iff.mp H
            obtain ⟨t248, A520, H⟩ := H
            replace H : (some (!t248)) = some r := H
            have A52 := Aside0.mk A520
            clear A520
            obtain rfl := Option.some.inj H
            have hcz53_0 : wc.cell? ⟨gb239, 0, none⟩ = some (.int .i64 a0_0) := (blk_cell BK239.out 0).trans rfl
            have hcz53_1 : wc.cell? ⟨gb239, 1, none⟩ = some (.slice A0_1 l0_1.length c0_1) := (blk_cell BK239.out 1).trans rfl
            have hfz53_0 := blk_frozen BK239.out 0
            have hfz53_1 := blk_frozen BK239.out 1
            go_wp2_with (first | ((with_reducible refine gate_callee (f := 17) rfl ?_); refine goesL_ (some 23) rfl rfl Try.func17 (by kernel_rfl) rfl #[.agg #[.int .i64 a0_0, .slice A0_1 l0_1.length c0_1], .slice A1 l1.length c1] rfl (by (try simp only [List.map_toArray, List.map_cons, List.map_nil]); first | done | rfl | (simp only [List.length_drop, List.length_take]; rfl)) ?_; (with_reducible refine (post_Only.calls kj2 a0_0 _ _ l0_1 _ _ l1 t241 t242 t245 _ ?side1 ?side2 ?side3 ?side4 A12.out).mono ?_); (case side1 => exact (Kd.C_below HR0_1.out HB.out)); (case side2 => exact HC0_1.out); (case side3 => exact (Kd.C_below HR1.out HB.out)); (case side4 => exact HC1.out); rintro e w54 ⟨v243, rfl, ho0, hb⟩; refine ⟨_, rfl, ?_⟩; have n0_ := Aside0.mk (Kd.R_lower ho0 (below_size (by repeat (with_reducible first | exact HB.out | apply pw_below_drewN | apply below_drew1 | refine below_set ?_ GE239.out)))); have n1_ := Aside0.mk (blk_below BK239.out hb); have n2_ := Aside0.mk (below_step (by repeat (with_reducible first | exact HB.out | apply pw_below_drewN | apply below_drew1 | refine below_set ?_ GE239.out)) hb); clear BK239; clear HB; have HO244 := n0_; have BK239 := n1_; have HB := n2_; clear n0_ n1_ n2_; (try clear hb); (try clear hb2); (try clear hk); (try clear hi); (try clear ho0)) | ((with_reducible refine gate_dst (N := 5) rfl ?_); (try (refine gate_guard (by rfl) ?_; dsimp only)); refine box_event ?hg (N := 5) ?hd (cs := #[.int .i64 0, .slice none 0 0]) (t := 24) ?hr ?_; (case hd => rfl); (case hg => rfl); (case hr => first | (go_simp; done) | (go_simp; rfl)); intro gb246 hg w55 hbox hb; have n0_ := Aside0.mk (Kd.R_below (HO244.out) hb); have n1_ := Aside0.mk (blk_below BK239.out hb); have n2_ := Aside0.mk (below_step (by repeat (with_reducible first | exact HB.out | apply pw_below_drewN | apply below_drew1 | refine below_set ?_ GE239.out)) hb); have n3_ := Aside0.mk (hbox); have n4_ := Aside0.mk ((by rw [hg]; exact (below_size (by repeat (with_reducible first | exact HB.out | apply pw_below_drewN | apply below_drew1 | refine below_set ?_ GE239.out))) : w.heap.size ≤ gb246)); have n5_ := Aside0.mk ((by rw [hg]; exact (below_size (by repeat (with_reducible first | exact HB.out | apply pw_below_drewN | apply below_drew1 | refine below_set ?_ GE239.out))) : w.heap.size ≤ gb246)); have n6_ := Aside0.mk ((by rw [hg]; exact Nat.ne_of_lt (blk_lt BK239.out) : gb239 ≠ gb246)); have n7_ := Aside0.mk ((by rw [hg]; exact Nat.ne_of_gt (blk_lt BK239.out) : gb246 ≠ gb239)); clear HO244; clear BK239; clear HB; have HO244 := n0_; have BK239 := n1_; have HB := n2_; have BK246 := n3_; have GW246 := n4_; have GE246 := n5_; have NB239_246 := n6_; have NB246_239 := n7_; clear n0_ n1_ n2_ n3_ n4_ n5_ n6_ n7_; clear hb hbox hg; have hnb56 := NB246_239.out; have hnc56 := NB239_246.out; have hcz57_0 : w55.cell? ⟨gb246, 0, none⟩ = some (.int .i64 0) := (blk_cell BK246.out 0).trans rfl; have hcz57_1 : w55.cell? ⟨gb246, 1, none⟩ = some (.slice none 0 0) := (blk_cell BK246.out 1).trans rfl; have hfz57_0 := blk_frozen BK246.out 0; have hfz57_1 := blk_frozen BK246.out 1; obtain ⟨Ao58, co58, eo58⟩ := Kd.R_slice HO244.out; subst eo58) | ((with_reducible refine gate_callee (f := 24) rfl ?_); refine goesL_ (some 28) rfl rfl Try.func24 (by kernel_rfl) rfl #[] rfl (by (try simp only [List.map_toArray, List.map_cons, List.map_nil]); first | done | rfl | (simp only [List.length_drop, List.length_take]; rfl)) ?_; (with_reducible refine (watchmanlaw21_posted.calls kj2  true _ A50.out).mono ?_); rintro e w59 ⟨rfl, hb⟩; refine ⟨_, rfl, ?_⟩; have n0_ := Aside0.mk (Kd.R_below (by (with_reducible repeat (first | apply Kd.R_alloc | apply Kd.R_drewN | apply Kd.R_drew)); exact (Kd.R_mono (Kd.R_far (p := ⟨gb246, 1, none⟩) (Kd.R_far (p := ⟨gb246, 0, none⟩) (Kd.R_types HO244.out BK246.out (by decide)) (fun _ hk => hk.2) (.int .i64 t241)) (fun _ hk => hk.2) (.slice Ao58 t242.length co58)) (fun _ h_ => h_.1))) hb); have n1_ := Aside0.mk (blk_below (g := gb239) (o := .cells #[.int .i64 a0_0, .slice A0_1 l0_1.length c0_1] 24 (0, 0)) (by refine blk_far ?_ NB239_246.out _; refine blk_far ?_ NB239_246.out _; exact BK239.out) hb); have n2_ := Aside0.mk (blk_below (g := gb246) (o := .cells #[.int .i64 t241, .slice Ao58 t242.length co58] 24 (0, 0)) (by refine blk_put (cs := #[.int .i64 t241, .slice none 0 0]) ?_ 1 _ rfl; refine blk_put (cs := #[.int .i64 0, .slice none 0 0]) ?_ 0 _ rfl; exact BK246.out) hb); have n3_ := Aside0.mk (below_step (by repeat (with_reducible first | exact HB.out | apply pw_below_drewN | apply below_drew1 | refine below_set ?_ GE239.out | refine below_set ?_ GE246.out)) hb); clear HO244; clear BK239; clear BK246; clear HB; have HO244 := n0_; have BK239 := n1_; have BK246 := n2_; have HB := n3_; clear n0_ n1_ n2_ n3_; (try clear hb); (try clear hb2); (try clear hk); (try clear hi); have hcz60_0 : w59.cell? ⟨gb239, 0, none⟩ = some (.int .i64 a0_0) := (blk_cell BK239.out 0).trans rfl; have hcz60_1 : w59.cell? ⟨gb239, 1, none⟩ = some (.slice A0_1 l0_1.length c0_1) := (blk_cell BK239.out 1).trans rfl; have hfz60_0 := blk_frozen BK239.out 0; have hfz60_1 := blk_frozen BK239.out 1) | (go_at_call 25; (with_reducible refine (post_Is.calls kj2 a0_0 _ _ l0_1 t248 _ ?side1 ?side2 A52.out).mono ?_); (case side1 => exact (Kd.C_below HR0_1.out HB.out)); (case side2 => exact HC0_1.out); rintro e w61 ⟨rfl, hb⟩; have n0_ := Aside0.mk (Kd.R_below (HO244.out) hb); have n1_ := Aside0.mk (blk_below BK239.out hb); have n2_ := Aside0.mk (blk_below BK246.out hb); have n3_ := Aside0.mk (below_step (by repeat (with_reducible first | exact HB.out | apply pw_below_drewN | apply below_drew1 | refine below_set ?_ GE239.out | refine below_set ?_ GE246.out)) hb); clear HO244; clear BK239; clear BK246; clear HB; have HO244 := n0_; have BK239 := n1_; have BK246 := n2_; have HB := n3_; clear n0_ n1_ n2_ n3_; (try clear hb); (try clear hb2); (try clear hk); (try clear hi)))
            go_ret
            exact ⟨by first | rfl | (simp [errW_none, errW_some] <;> rfl) | (simp [*, errW_none, errW_some] <;> rfl), by repeat (with_reducible first | exact HB.out | apply pw_below_drewN | apply below_drew1 | refine below_set ?_ GE239.out | refine below_set ?_ GE246.out)⟩
          · replace c51 := Bool.eq_false_iff.mpr c51
            subst c51
            have H1 : (none) = some r := by rw [if_neg (show ¬ (false = true) by decide)] at H; exact H
            clear H
            have H := H1
            clear H1
            exact absurd H (by simp)

end Go.Proofs.Ytofbkpdpgmjllaa.F
